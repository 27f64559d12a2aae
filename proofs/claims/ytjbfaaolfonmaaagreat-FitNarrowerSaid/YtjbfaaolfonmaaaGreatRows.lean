/-
  No cell of these rows narrows 'for every input' (looked for: loops, veiled, ifaces, maps, wideKeys, modest, calm, conditions, laid).
  DERIVED. THE GIVEN ROWS OF THIS SEAT. 12 by the template 'for every input the law returns true; each argument reads behind the call as it read before'; 0 by the template 'total and deterministic' (their statements: YtjbfaaolfonmaaaGreatTotals.lean).
  GIVEN WITH THE SEED: the statements are not yours to turn. If you find one false, say at which input.
  Laid BY PROGRAM, IN A SANDBOX (cutbox-rows.mjs): the forced cells as the released guide's own fill.sh prints them over the translation 88e05043205e2da8… (all of the seat's roots in one cut). By AI agents, Wed Nov 11 2026. No macro, syntax, notation, axiom, sorry.
-/
import Derived.Test.YtjbfaaolfonmaaaGreatChecked
import GoSem.Claim
import GoSem.ClaimJoined
import GoSem.ClaimMapViews
import Derived.JoinedTies
import Derived.KernelRfl
namespace Go.Proofs.YtjbfaaolfonmaaaGreat
/- THE CELL 'sum', in the pinned program and in every row, IS THE sha256 OF THE DUMP (.gsa) THAT YtjbfaaolfonmaaaGreatProg.lean LOADS. Nothing in Lean hashes anything: it is a label: what it is worth is what the hold of that sum in a sandbox is worth. -/
noncomputable def Tryz.pinned : Pinned := { name := "ytjbfaaolfonmaaagreat", sum := "88e05043205e2da8e752930cd25a626514d7269fb898de475f65b832465a04ff", checked := Tryz.checked }
namespace Rows
def none {H : Type} : Left H := { results := [], args := [] }

/-- 'etalonlaw07.FitPredicts': WHATEVER THE INPUT: true; the input reads as it did. -/
def fitPredictsSpec : ChangeSpec := { name := "fitPredicts", fn := fun _ => fun
  | [d1, d2, d3] => { results := [.lit (.bool true)], args := [d1, d2, d3] }
  | _ => none }
def fitPredictsRow : OpenClaim := { program := "ytjbfaaolfonmaaagreat", sum := "88e05043205e2da8e752930cd25a626514d7269fb898de475f65b832465a04ff", func := "etalon/etalonlaw07.FitPredicts", spec := "fitPredicts", inPlace := ["math.archTrunc", "math.Float64bits", "math.Float64frombits", "math.sqrt"], unfollowed := true, recurses := true, named := ["math/bits.divideError", "math/bits.overflowError"], apart := false }
def FitPredictsSaid : Prop := fitPredictsRow.holds Tryz.pinned (OpenSpec.ofChange fitPredictsSpec)

/-- ITS FALSE NEIGHBOUR: 'it returns false'. Refute it at one input. -/
def fitPredictsWrong : ChangeSpec := { name := "fitPredicts", fn := fun _ => fun
  | [d1, d2, d3] => { results := [.lit (.bool false)], args := [d1, d2, d3] }
  | _ => none }
def FitPredictsWrongFalsely : Prop := fitPredictsRow.holds Tryz.pinned (OpenSpec.ofChange fitPredictsWrong)

/-- 'etalonlaw07.FitNarrower': WHATEVER THE INPUT: true; the input reads as it did. -/
def fitNarrowerSpec : ChangeSpec := { name := "fitNarrower", fn := fun _ => fun
  | [d1, d2, d3] => { results := [.lit (.bool true)], args := [d1, d2, d3] }
  | _ => none }
def fitNarrowerRow : OpenClaim := { program := "ytjbfaaolfonmaaagreat", sum := "88e05043205e2da8e752930cd25a626514d7269fb898de475f65b832465a04ff", func := "etalon/etalonlaw07.FitNarrower", spec := "fitNarrower", inPlace := ["math.archTrunc", "math.Float64bits", "math.Float64frombits", "math.sqrt"], unfollowed := true, recurses := true, named := ["math/bits.divideError", "math/bits.overflowError"], apart := false }
def FitNarrowerSaid : Prop := fitNarrowerRow.holds Tryz.pinned (OpenSpec.ofChange fitNarrowerSpec)

/-- ITS FALSE NEIGHBOUR: 'it returns false'. Refute it at one input. -/
def fitNarrowerWrong : ChangeSpec := { name := "fitNarrower", fn := fun _ => fun
  | [d1, d2, d3] => { results := [.lit (.bool false)], args := [d1, d2, d3] }
  | _ => none }
def FitNarrowerWrongFalsely : Prop := fitNarrowerRow.holds Tryz.pinned (OpenSpec.ofChange fitNarrowerWrong)

/-- 'etalonlaw07.FitChanges': WHATEVER THE INPUT: true; the input reads as it did. -/
def fitChangesSpec : ChangeSpec := { name := "fitChanges", fn := fun _ => fun
  | [d1, d2] => { results := [.lit (.bool true)], args := [d1, d2] }
  | _ => none }
def fitChangesRow : OpenClaim := { program := "ytjbfaaolfonmaaagreat", sum := "88e05043205e2da8e752930cd25a626514d7269fb898de475f65b832465a04ff", func := "etalon/etalonlaw07.FitChanges", spec := "fitChanges", inPlace := ["math.archTrunc", "math.Float64bits", "math.Float64frombits", "math.sqrt"], unfollowed := true, recurses := true, named := ["math/bits.divideError", "math/bits.overflowError"], apart := false }
def FitChangesSaid : Prop := fitChangesRow.holds Tryz.pinned (OpenSpec.ofChange fitChangesSpec)

/-- ITS FALSE NEIGHBOUR: 'it returns false'. Refute it at one input. -/
def fitChangesWrong : ChangeSpec := { name := "fitChanges", fn := fun _ => fun
  | [d1, d2] => { results := [.lit (.bool false)], args := [d1, d2] }
  | _ => none }
def FitChangesWrongFalsely : Prop := fitChangesRow.holds Tryz.pinned (OpenSpec.ofChange fitChangesWrong)

/-- 'etalonlaw07.FitCuts': WHATEVER THE INPUT: true; the input reads as it did. -/
def fitCutsSpec : ChangeSpec := { name := "fitCuts", fn := fun _ => fun
  | [d1, d2] => { results := [.lit (.bool true)], args := [d1, d2] }
  | _ => none }
def fitCutsRow : OpenClaim := { program := "ytjbfaaolfonmaaagreat", sum := "88e05043205e2da8e752930cd25a626514d7269fb898de475f65b832465a04ff", func := "etalon/etalonlaw07.FitCuts", spec := "fitCuts", inPlace := ["math.archTrunc", "math.Float64bits", "math.Float64frombits", "math.sqrt"], unfollowed := true, recurses := true, named := ["math/bits.divideError", "math/bits.overflowError"], apart := false }
def FitCutsSaid : Prop := fitCutsRow.holds Tryz.pinned (OpenSpec.ofChange fitCutsSpec)

/-- ITS FALSE NEIGHBOUR: 'it returns false'. Refute it at one input. -/
def fitCutsWrong : ChangeSpec := { name := "fitCuts", fn := fun _ => fun
  | [d1, d2] => { results := [.lit (.bool false)], args := [d1, d2] }
  | _ => none }
def FitCutsWrongFalsely : Prop := fitCutsRow.holds Tryz.pinned (OpenSpec.ofChange fitCutsWrong)

/-- 'etalonlaw07.FitHulls': WHATEVER THE INPUT: true; the input reads as it did. -/
def fitHullsSpec : ChangeSpec := { name := "fitHulls", fn := fun _ => fun
  | [d] => { results := [.lit (.bool true)], args := [d] }
  | _ => none }
def fitHullsRow : OpenClaim := { program := "ytjbfaaolfonmaaagreat", sum := "88e05043205e2da8e752930cd25a626514d7269fb898de475f65b832465a04ff", func := "etalon/etalonlaw07.FitHulls", spec := "fitHulls", inPlace := ["math.archTrunc", "math.Float64bits", "math.Float64frombits", "math.sqrt"], unfollowed := true, recurses := true, named := ["math/bits.divideError", "math/bits.overflowError"], apart := false }
def FitHullsSaid : Prop := fitHullsRow.holds Tryz.pinned (OpenSpec.ofChange fitHullsSpec)

/-- ITS FALSE NEIGHBOUR: 'it returns false'. Refute it at one input. -/
def fitHullsWrong : ChangeSpec := { name := "fitHulls", fn := fun _ => fun
  | [d] => { results := [.lit (.bool false)], args := [d] }
  | _ => none }
def FitHullsWrongFalsely : Prop := fitHullsRow.holds Tryz.pinned (OpenSpec.ofChange fitHullsWrong)

/-- 'etalonlaw07.FitTells': WHATEVER THE INPUT: true; the input reads as it did. -/
def fitTellsSpec : ChangeSpec := { name := "fitTells", fn := fun _ => fun
  | [d1, d2, d3] => { results := [.lit (.bool true)], args := [d1, d2, d3] }
  | _ => none }
def fitTellsRow : OpenClaim := { program := "ytjbfaaolfonmaaagreat", sum := "88e05043205e2da8e752930cd25a626514d7269fb898de475f65b832465a04ff", func := "etalon/etalonlaw07.FitTells", spec := "fitTells", inPlace := ["math.archTrunc", "math.Float64bits", "math.Float64frombits", "math.sqrt"], unfollowed := true, recurses := true, named := ["math/bits.divideError", "math/bits.overflowError"], apart := false }
def FitTellsSaid : Prop := fitTellsRow.holds Tryz.pinned (OpenSpec.ofChange fitTellsSpec)

/-- ITS FALSE NEIGHBOUR: 'it returns false'. Refute it at one input. -/
def fitTellsWrong : ChangeSpec := { name := "fitTells", fn := fun _ => fun
  | [d1, d2, d3] => { results := [.lit (.bool false)], args := [d1, d2, d3] }
  | _ => none }
def FitTellsWrongFalsely : Prop := fitTellsRow.holds Tryz.pinned (OpenSpec.ofChange fitTellsWrong)

/-- 'etalonlaw07.FitExplains': WHATEVER THE INPUT: true; the input reads as it did. -/
def fitExplainsSpec : ChangeSpec := { name := "fitExplains", fn := fun _ => fun
  | [d] => { results := [.lit (.bool true)], args := [d] }
  | _ => none }
def fitExplainsRow : OpenClaim := { program := "ytjbfaaolfonmaaagreat", sum := "88e05043205e2da8e752930cd25a626514d7269fb898de475f65b832465a04ff", func := "etalon/etalonlaw07.FitExplains", spec := "fitExplains", inPlace := ["math.archTrunc", "math.Float64bits", "math.Float64frombits", "math.sqrt"], unfollowed := true, recurses := true, named := ["math/bits.divideError", "math/bits.overflowError"], apart := false }
def FitExplainsSaid : Prop := fitExplainsRow.holds Tryz.pinned (OpenSpec.ofChange fitExplainsSpec)

/-- ITS FALSE NEIGHBOUR: 'it returns false'. Refute it at one input. -/
def fitExplainsWrong : ChangeSpec := { name := "fitExplains", fn := fun _ => fun
  | [d] => { results := [.lit (.bool false)], args := [d] }
  | _ => none }
def FitExplainsWrongFalsely : Prop := fitExplainsRow.holds Tryz.pinned (OpenSpec.ofChange fitExplainsWrong)

/-- 'etalonlaw07.FitTrees': WHATEVER THE INPUT: true; the input reads as it did. -/
def fitTreesSpec : ChangeSpec := { name := "fitTrees", fn := fun _ => fun
  | [d1, d2] => { results := [.lit (.bool true)], args := [d1, d2] }
  | _ => none }
def fitTreesRow : OpenClaim := { program := "ytjbfaaolfonmaaagreat", sum := "88e05043205e2da8e752930cd25a626514d7269fb898de475f65b832465a04ff", func := "etalon/etalonlaw07.FitTrees", spec := "fitTrees", inPlace := ["math.archTrunc", "math.Float64bits", "math.Float64frombits", "math.sqrt"], unfollowed := true, recurses := true, named := ["math/bits.divideError", "math/bits.overflowError"], apart := false }
def FitTreesSaid : Prop := fitTreesRow.holds Tryz.pinned (OpenSpec.ofChange fitTreesSpec)

/-- ITS FALSE NEIGHBOUR: 'it returns false'. Refute it at one input. -/
def fitTreesWrong : ChangeSpec := { name := "fitTrees", fn := fun _ => fun
  | [d1, d2] => { results := [.lit (.bool false)], args := [d1, d2] }
  | _ => none }
def FitTreesWrongFalsely : Prop := fitTreesRow.holds Tryz.pinned (OpenSpec.ofChange fitTreesWrong)

/-- 'etalonlaw07.FitSearches': WHATEVER THE INPUT: true; the input reads as it did. -/
def fitSearchesSpec : ChangeSpec := { name := "fitSearches", fn := fun _ => fun
  | [d1, d2] => { results := [.lit (.bool true)], args := [d1, d2] }
  | _ => none }
def fitSearchesRow : OpenClaim := { program := "ytjbfaaolfonmaaagreat", sum := "88e05043205e2da8e752930cd25a626514d7269fb898de475f65b832465a04ff", func := "etalon/etalonlaw07.FitSearches", spec := "fitSearches", inPlace := ["math.archTrunc", "math.Float64bits", "math.Float64frombits", "math.sqrt"], unfollowed := true, recurses := true, named := ["math/bits.divideError", "math/bits.overflowError"], apart := false }
def FitSearchesSaid : Prop := fitSearchesRow.holds Tryz.pinned (OpenSpec.ofChange fitSearchesSpec)

/-- ITS FALSE NEIGHBOUR: 'it returns false'. Refute it at one input. -/
def fitSearchesWrong : ChangeSpec := { name := "fitSearches", fn := fun _ => fun
  | [d1, d2] => { results := [.lit (.bool false)], args := [d1, d2] }
  | _ => none }
def FitSearchesWrongFalsely : Prop := fitSearchesRow.holds Tryz.pinned (OpenSpec.ofChange fitSearchesWrong)

/-- 'etalonlaw07.FitPlaces': WHATEVER THE INPUT: true; the input reads as it did. -/
def fitPlacesSpec : ChangeSpec := { name := "fitPlaces", fn := fun _ => fun
  | [d1, d2, d3] => { results := [.lit (.bool true)], args := [d1, d2, d3] }
  | _ => none }
def fitPlacesRow : OpenClaim := { program := "ytjbfaaolfonmaaagreat", sum := "88e05043205e2da8e752930cd25a626514d7269fb898de475f65b832465a04ff", func := "etalon/etalonlaw07.FitPlaces", spec := "fitPlaces", inPlace := ["math.archTrunc", "math.Float64bits", "math.Float64frombits", "math.sqrt"], unfollowed := true, recurses := true, named := ["math/bits.divideError", "math/bits.overflowError"], apart := false }
def FitPlacesSaid : Prop := fitPlacesRow.holds Tryz.pinned (OpenSpec.ofChange fitPlacesSpec)

/-- ITS FALSE NEIGHBOUR: 'it returns false'. Refute it at one input. -/
def fitPlacesWrong : ChangeSpec := { name := "fitPlaces", fn := fun _ => fun
  | [d1, d2, d3] => { results := [.lit (.bool false)], args := [d1, d2, d3] }
  | _ => none }
def FitPlacesWrongFalsely : Prop := fitPlacesRow.holds Tryz.pinned (OpenSpec.ofChange fitPlacesWrong)

/-- 'etalonlaw07.FitTrueSample': WHATEVER THE INPUT: true; the input reads as it did. -/
def fitTrueSampleSpec : ChangeSpec := { name := "fitTrueSample", fn := fun _ => fun
  | [d1, d2, d3] => { results := [.lit (.bool true)], args := [d1, d2, d3] }
  | _ => none }
def fitTrueSampleRow : OpenClaim := { program := "ytjbfaaolfonmaaagreat", sum := "88e05043205e2da8e752930cd25a626514d7269fb898de475f65b832465a04ff", func := "etalon/etalonlaw07.FitTrueSample", spec := "fitTrueSample", inPlace := ["math.archTrunc", "math.Float64bits", "math.Float64frombits", "math.sqrt"], unfollowed := true, recurses := true, named := ["math/bits.divideError", "math/bits.overflowError"], apart := false }
def FitTrueSampleSaid : Prop := fitTrueSampleRow.holds Tryz.pinned (OpenSpec.ofChange fitTrueSampleSpec)

/-- ITS FALSE NEIGHBOUR: 'it returns false'. Refute it at one input. -/
def fitTrueSampleWrong : ChangeSpec := { name := "fitTrueSample", fn := fun _ => fun
  | [d1, d2, d3] => { results := [.lit (.bool false)], args := [d1, d2, d3] }
  | _ => none }
def FitTrueSampleWrongFalsely : Prop := fitTrueSampleRow.holds Tryz.pinned (OpenSpec.ofChange fitTrueSampleWrong)

/-- 'etalontop.TopFurtherAngle': WHATEVER THE INPUT: true; the input reads as it did. -/
def topFurtherAngleSpec : ChangeSpec := { name := "topFurtherAngle", fn := fun _ => fun
  | [d1, d2, d3] => { results := [.lit (.bool true)], args := [d1, d2, d3] }
  | _ => none }
def topFurtherAngleRow : OpenClaim := { program := "ytjbfaaolfonmaaagreat", sum := "88e05043205e2da8e752930cd25a626514d7269fb898de475f65b832465a04ff", func := "etalon/etalontop.TopFurtherAngle", spec := "topFurtherAngle", inPlace := ["math.archTrunc", "math.Float64bits", "math.Float64frombits", "math.sqrt"], unfollowed := true, recurses := true, named := ["math/bits.divideError", "math/bits.overflowError"], apart := false }
def TopFurtherAngleSaid : Prop := topFurtherAngleRow.holds Tryz.pinned (OpenSpec.ofChange topFurtherAngleSpec)

/-- ITS FALSE NEIGHBOUR: 'it returns false'. Refute it at one input. -/
def topFurtherAngleWrong : ChangeSpec := { name := "topFurtherAngle", fn := fun _ => fun
  | [d1, d2, d3] => { results := [.lit (.bool false)], args := [d1, d2, d3] }
  | _ => none }
def TopFurtherAngleWrongFalsely : Prop := topFurtherAngleRow.holds Tryz.pinned (OpenSpec.ofChange topFurtherAngleWrong)

/- THE SECOND FORM. 'bulk': how many values and letters a reading holds, each counted each time it is reached (what is shared counts as often as it is met; a slice's spare places count too). A statement '..UptoSaid' is the law's where the arguments, and the package variables that the reading takes, are together of bulk at most 1048576: NARROWER than '..Said'. Prove '..Said' where nothing that the law and all that it calls make is longer than what came in: it says more and counts as full. Else prove '..UptoSaid'. A law counts once. -/
mutual
def uptoBulk {H : Type} : DataW H → Nat
  | .lit (.string bytes) => bytes.length + 1
  | .lit _ => 1
  | .nil => 1
  | .ptr d => uptoBulk d + 1
  | .slice elems spare => uptoBulkAll elems + uptoBulkAll spare + 1
  | .agg parts => uptoBulkAll parts + 1
  | .iface _ d => uptoBulk d + 1
  | .map entries => uptoBulkEntries entries + 1
  | .held _ => 1
def uptoBulkAll {H : Type} : List (DataW H) → Nat
  | [] => 0
  | d :: r => uptoBulk d + uptoBulkAll r
def uptoBulkEntries {H : Type} : List (Lit × DataW H) → Nat
  | [] => 0
  | x :: r => uptoBulkEntry x + uptoBulkEntries r
def uptoBulkEntry {H : Type} : Lit × DataW H → Nat
  | (.string bytes, d) => bytes.length + uptoBulk d + 1
  | (_, d) => uptoBulk d + 1
 end
def uptoSmall : (H : Type) → List (DataW H) → Bool := fun _ ds => decide (uptoBulkAll ds ≤ 1048576)
def OpenSpec.upto (s : _root_.Go.ChangeSpec) : _root_.Go.OpenSpec := { _root_.Go.OpenSpec.ofChange s with cond := some uptoSmall }

/-- 'etalonlaw07.FitPredicts', WHERE WHAT IT READS IS OF BULK AT MOST 1048576: true; the input reads as it did. -/
def fitPredictsUptoRow : OpenClaim := { program := "ytjbfaaolfonmaaagreat", sum := "88e05043205e2da8e752930cd25a626514d7269fb898de475f65b832465a04ff", func := "etalon/etalonlaw07.FitPredicts", spec := "fitPredicts", inPlace := ["math.archTrunc", "math.Float64bits", "math.Float64frombits", "math.sqrt"], unfollowed := true, recurses := true, named := ["math/bits.divideError", "math/bits.overflowError"], apart := false, narrowed := true }
def FitPredictsUptoSaid : Prop := fitPredictsUptoRow.holds Tryz.pinned (OpenSpec.upto fitPredictsSpec)

/-- 'etalonlaw07.FitNarrower', WHERE WHAT IT READS IS OF BULK AT MOST 1048576: true; the input reads as it did. -/
def fitNarrowerUptoRow : OpenClaim := { program := "ytjbfaaolfonmaaagreat", sum := "88e05043205e2da8e752930cd25a626514d7269fb898de475f65b832465a04ff", func := "etalon/etalonlaw07.FitNarrower", spec := "fitNarrower", inPlace := ["math.archTrunc", "math.Float64bits", "math.Float64frombits", "math.sqrt"], unfollowed := true, recurses := true, named := ["math/bits.divideError", "math/bits.overflowError"], apart := false, narrowed := true }
def FitNarrowerUptoSaid : Prop := fitNarrowerUptoRow.holds Tryz.pinned (OpenSpec.upto fitNarrowerSpec)

/-- 'etalonlaw07.FitChanges', WHERE WHAT IT READS IS OF BULK AT MOST 1048576: true; the input reads as it did. -/
def fitChangesUptoRow : OpenClaim := { program := "ytjbfaaolfonmaaagreat", sum := "88e05043205e2da8e752930cd25a626514d7269fb898de475f65b832465a04ff", func := "etalon/etalonlaw07.FitChanges", spec := "fitChanges", inPlace := ["math.archTrunc", "math.Float64bits", "math.Float64frombits", "math.sqrt"], unfollowed := true, recurses := true, named := ["math/bits.divideError", "math/bits.overflowError"], apart := false, narrowed := true }
def FitChangesUptoSaid : Prop := fitChangesUptoRow.holds Tryz.pinned (OpenSpec.upto fitChangesSpec)

/-- 'etalonlaw07.FitCuts', WHERE WHAT IT READS IS OF BULK AT MOST 1048576: true; the input reads as it did. -/
def fitCutsUptoRow : OpenClaim := { program := "ytjbfaaolfonmaaagreat", sum := "88e05043205e2da8e752930cd25a626514d7269fb898de475f65b832465a04ff", func := "etalon/etalonlaw07.FitCuts", spec := "fitCuts", inPlace := ["math.archTrunc", "math.Float64bits", "math.Float64frombits", "math.sqrt"], unfollowed := true, recurses := true, named := ["math/bits.divideError", "math/bits.overflowError"], apart := false, narrowed := true }
def FitCutsUptoSaid : Prop := fitCutsUptoRow.holds Tryz.pinned (OpenSpec.upto fitCutsSpec)

/-- 'etalonlaw07.FitHulls', WHERE WHAT IT READS IS OF BULK AT MOST 1048576: true; the input reads as it did. -/
def fitHullsUptoRow : OpenClaim := { program := "ytjbfaaolfonmaaagreat", sum := "88e05043205e2da8e752930cd25a626514d7269fb898de475f65b832465a04ff", func := "etalon/etalonlaw07.FitHulls", spec := "fitHulls", inPlace := ["math.archTrunc", "math.Float64bits", "math.Float64frombits", "math.sqrt"], unfollowed := true, recurses := true, named := ["math/bits.divideError", "math/bits.overflowError"], apart := false, narrowed := true }
def FitHullsUptoSaid : Prop := fitHullsUptoRow.holds Tryz.pinned (OpenSpec.upto fitHullsSpec)

/-- 'etalonlaw07.FitTells', WHERE WHAT IT READS IS OF BULK AT MOST 1048576: true; the input reads as it did. -/
def fitTellsUptoRow : OpenClaim := { program := "ytjbfaaolfonmaaagreat", sum := "88e05043205e2da8e752930cd25a626514d7269fb898de475f65b832465a04ff", func := "etalon/etalonlaw07.FitTells", spec := "fitTells", inPlace := ["math.archTrunc", "math.Float64bits", "math.Float64frombits", "math.sqrt"], unfollowed := true, recurses := true, named := ["math/bits.divideError", "math/bits.overflowError"], apart := false, narrowed := true }
def FitTellsUptoSaid : Prop := fitTellsUptoRow.holds Tryz.pinned (OpenSpec.upto fitTellsSpec)

/-- 'etalonlaw07.FitExplains', WHERE WHAT IT READS IS OF BULK AT MOST 1048576: true; the input reads as it did. -/
def fitExplainsUptoRow : OpenClaim := { program := "ytjbfaaolfonmaaagreat", sum := "88e05043205e2da8e752930cd25a626514d7269fb898de475f65b832465a04ff", func := "etalon/etalonlaw07.FitExplains", spec := "fitExplains", inPlace := ["math.archTrunc", "math.Float64bits", "math.Float64frombits", "math.sqrt"], unfollowed := true, recurses := true, named := ["math/bits.divideError", "math/bits.overflowError"], apart := false, narrowed := true }
def FitExplainsUptoSaid : Prop := fitExplainsUptoRow.holds Tryz.pinned (OpenSpec.upto fitExplainsSpec)

/-- 'etalonlaw07.FitTrees', WHERE WHAT IT READS IS OF BULK AT MOST 1048576: true; the input reads as it did. -/
def fitTreesUptoRow : OpenClaim := { program := "ytjbfaaolfonmaaagreat", sum := "88e05043205e2da8e752930cd25a626514d7269fb898de475f65b832465a04ff", func := "etalon/etalonlaw07.FitTrees", spec := "fitTrees", inPlace := ["math.archTrunc", "math.Float64bits", "math.Float64frombits", "math.sqrt"], unfollowed := true, recurses := true, named := ["math/bits.divideError", "math/bits.overflowError"], apart := false, narrowed := true }
def FitTreesUptoSaid : Prop := fitTreesUptoRow.holds Tryz.pinned (OpenSpec.upto fitTreesSpec)

/-- 'etalonlaw07.FitSearches', WHERE WHAT IT READS IS OF BULK AT MOST 1048576: true; the input reads as it did. -/
def fitSearchesUptoRow : OpenClaim := { program := "ytjbfaaolfonmaaagreat", sum := "88e05043205e2da8e752930cd25a626514d7269fb898de475f65b832465a04ff", func := "etalon/etalonlaw07.FitSearches", spec := "fitSearches", inPlace := ["math.archTrunc", "math.Float64bits", "math.Float64frombits", "math.sqrt"], unfollowed := true, recurses := true, named := ["math/bits.divideError", "math/bits.overflowError"], apart := false, narrowed := true }
def FitSearchesUptoSaid : Prop := fitSearchesUptoRow.holds Tryz.pinned (OpenSpec.upto fitSearchesSpec)

/-- 'etalonlaw07.FitPlaces', WHERE WHAT IT READS IS OF BULK AT MOST 1048576: true; the input reads as it did. -/
def fitPlacesUptoRow : OpenClaim := { program := "ytjbfaaolfonmaaagreat", sum := "88e05043205e2da8e752930cd25a626514d7269fb898de475f65b832465a04ff", func := "etalon/etalonlaw07.FitPlaces", spec := "fitPlaces", inPlace := ["math.archTrunc", "math.Float64bits", "math.Float64frombits", "math.sqrt"], unfollowed := true, recurses := true, named := ["math/bits.divideError", "math/bits.overflowError"], apart := false, narrowed := true }
def FitPlacesUptoSaid : Prop := fitPlacesUptoRow.holds Tryz.pinned (OpenSpec.upto fitPlacesSpec)

/-- 'etalonlaw07.FitTrueSample', WHERE WHAT IT READS IS OF BULK AT MOST 1048576: true; the input reads as it did. -/
def fitTrueSampleUptoRow : OpenClaim := { program := "ytjbfaaolfonmaaagreat", sum := "88e05043205e2da8e752930cd25a626514d7269fb898de475f65b832465a04ff", func := "etalon/etalonlaw07.FitTrueSample", spec := "fitTrueSample", inPlace := ["math.archTrunc", "math.Float64bits", "math.Float64frombits", "math.sqrt"], unfollowed := true, recurses := true, named := ["math/bits.divideError", "math/bits.overflowError"], apart := false, narrowed := true }
def FitTrueSampleUptoSaid : Prop := fitTrueSampleUptoRow.holds Tryz.pinned (OpenSpec.upto fitTrueSampleSpec)

/-- 'etalontop.TopFurtherAngle', WHERE WHAT IT READS IS OF BULK AT MOST 1048576: true; the input reads as it did. -/
def topFurtherAngleUptoRow : OpenClaim := { program := "ytjbfaaolfonmaaagreat", sum := "88e05043205e2da8e752930cd25a626514d7269fb898de475f65b832465a04ff", func := "etalon/etalontop.TopFurtherAngle", spec := "topFurtherAngle", inPlace := ["math.archTrunc", "math.Float64bits", "math.Float64frombits", "math.sqrt"], unfollowed := true, recurses := true, named := ["math/bits.divideError", "math/bits.overflowError"], apart := false, narrowed := true }
def TopFurtherAngleUptoSaid : Prop := topFurtherAngleUptoRow.holds Tryz.pinned (OpenSpec.upto topFurtherAngleSpec)

end Rows
end Go.Proofs.YtjbfaaolfonmaaaGreat
