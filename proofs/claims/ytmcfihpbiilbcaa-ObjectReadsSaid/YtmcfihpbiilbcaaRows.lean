/-
  No cell of these rows narrows 'for every input' (looked for: loops, veiled, ifaces, maps, wideKeys, modest, calm, conditions, laid).
  DERIVED. THE GIVEN ROWS OF THIS SEAT. 21 by the template 'for every input the law returns true; each argument reads behind the call as it read before'; 0 by the template 'total and deterministic' (their statements: YtmcfihpbiilbcaaTotals.lean).
  GIVEN WITH THE SEED: the statements are not yours to turn. If you find one false, say at which input.
  Laid BY PROGRAM, IN A SANDBOX (cutbox-rows.mjs): the forced cells as the released guide's own fill.sh prints them over the translation a81b15a32e551925… (all of the seat's roots in one cut). By AI agents, Wed Nov 11 2026. No macro, syntax, notation, axiom, sorry.
-/
import Derived.Test.YtmcfihpbiilbcaaChecked
import GoSem.Claim
import GoSem.ClaimJoined
import GoSem.ClaimMapViews
import Derived.JoinedTies
import Derived.KernelRfl
namespace Go.Proofs.Ytmcfihpbiilbcaa
/- THE CELL 'sum', in the pinned program and in every row, IS THE sha256 OF THE DUMP (.gsa) THAT YtmcfihpbiilbcaaProg.lean LOADS. Nothing in Lean hashes anything: it is a label: what it is worth is what the hold of that sum in a sandbox is worth. -/
noncomputable def Try.pinned : Pinned := { name := "ytmcfihpbiilbcaa", sum := "a81b15a32e55192567fc3c5fcd7c3fc5c842cca99d1c4b61273b3efd51a6f9a0", checked := Try.checked }
namespace Rows
def none {H : Type} : Left H := { results := [], args := [] }

/-- 'splicelaw08.ScanTries': WHATEVER THE INPUT: true; the input reads as it did. -/
def scanTriesSpec : ChangeSpec := { name := "scanTries", fn := fun _ => fun
  | [d1, d2, d3] => { results := [.lit (.bool true)], args := [d1, d2, d3] }
  | _ => none }
def scanTriesRow : OpenClaim := { program := "ytmcfihpbiilbcaa", sum := "a81b15a32e55192567fc3c5fcd7c3fc5c842cca99d1c4b61273b3efd51a6f9a0", func := "splice/splicelaw08.ScanTries", spec := "scanTries", inPlace := ["math.Float64bits"], unfollowed := true, recurses := true, apart := false }
def ScanTriesSaid : Prop := scanTriesRow.holds Try.pinned (OpenSpec.ofChange scanTriesSpec)

/-- ITS FALSE NEIGHBOUR: 'it returns false'. Refute it at one input. -/
def scanTriesWrong : ChangeSpec := { name := "scanTries", fn := fun _ => fun
  | [d1, d2, d3] => { results := [.lit (.bool false)], args := [d1, d2, d3] }
  | _ => none }
def ScanTriesWrongFalsely : Prop := scanTriesRow.holds Try.pinned (OpenSpec.ofChange scanTriesWrong)

/-- 'splicelaw08.ScanKeeps': WHATEVER THE INPUT: true; the input reads as it did. -/
def scanKeepsSpec : ChangeSpec := { name := "scanKeeps", fn := fun _ => fun
  | [d] => { results := [.lit (.bool true)], args := [d] }
  | _ => none }
def scanKeepsRow : OpenClaim := { program := "ytmcfihpbiilbcaa", sum := "a81b15a32e55192567fc3c5fcd7c3fc5c842cca99d1c4b61273b3efd51a6f9a0", func := "splice/splicelaw08.ScanKeeps", spec := "scanKeeps", inPlace := ["math.Float64bits"], unfollowed := true, recurses := true, apart := false }
def ScanKeepsSaid : Prop := scanKeepsRow.holds Try.pinned (OpenSpec.ofChange scanKeepsSpec)

/-- ITS FALSE NEIGHBOUR: 'it returns false'. Refute it at one input. -/
def scanKeepsWrong : ChangeSpec := { name := "scanKeeps", fn := fun _ => fun
  | [d] => { results := [.lit (.bool false)], args := [d] }
  | _ => none }
def ScanKeepsWrongFalsely : Prop := scanKeepsRow.holds Try.pinned (OpenSpec.ofChange scanKeepsWrong)

/-- 'splicelaw08.ScanNames': WHATEVER THE INPUT: true; the input reads as it did. -/
def scanNamesSpec : ChangeSpec := { name := "scanNames", fn := fun _ => fun
  | [d1, d2, d3] => { results := [.lit (.bool true)], args := [d1, d2, d3] }
  | _ => none }
def scanNamesRow : OpenClaim := { program := "ytmcfihpbiilbcaa", sum := "a81b15a32e55192567fc3c5fcd7c3fc5c842cca99d1c4b61273b3efd51a6f9a0", func := "splice/splicelaw08.ScanNames", spec := "scanNames", inPlace := ["math.Float64bits"], unfollowed := true, recurses := true, apart := false }
def ScanNamesSaid : Prop := scanNamesRow.holds Try.pinned (OpenSpec.ofChange scanNamesSpec)

/-- ITS FALSE NEIGHBOUR: 'it returns false'. Refute it at one input. -/
def scanNamesWrong : ChangeSpec := { name := "scanNames", fn := fun _ => fun
  | [d1, d2, d3] => { results := [.lit (.bool false)], args := [d1, d2, d3] }
  | _ => none }
def ScanNamesWrongFalsely : Prop := scanNamesRow.holds Try.pinned (OpenSpec.ofChange scanNamesWrong)

/-- 'splicelaw08.ScanActs': WHATEVER THE INPUT: true; the input reads as it did. -/
def scanActsSpec : ChangeSpec := { name := "scanActs", fn := fun _ => fun
  | [d1, d2] => { results := [.lit (.bool true)], args := [d1, d2] }
  | _ => none }
def scanActsRow : OpenClaim := { program := "ytmcfihpbiilbcaa", sum := "a81b15a32e55192567fc3c5fcd7c3fc5c842cca99d1c4b61273b3efd51a6f9a0", func := "splice/splicelaw08.ScanActs", spec := "scanActs", inPlace := ["math.Float64bits", "math.Float64frombits"], unfollowed := true, recurses := true, apart := false }
def ScanActsSaid : Prop := scanActsRow.holds Try.pinned (OpenSpec.ofChange scanActsSpec)

/-- ITS FALSE NEIGHBOUR: 'it returns false'. Refute it at one input. -/
def scanActsWrong : ChangeSpec := { name := "scanActs", fn := fun _ => fun
  | [d1, d2] => { results := [.lit (.bool false)], args := [d1, d2] }
  | _ => none }
def ScanActsWrongFalsely : Prop := scanActsRow.holds Try.pinned (OpenSpec.ofChange scanActsWrong)

/-- 'splicelaw08.ScanTakes': WHATEVER THE INPUT: true; the input reads as it did. -/
def scanTakesSpec : ChangeSpec := { name := "scanTakes", fn := fun _ => fun
  | [d1, d2, d3, d4] => { results := [.lit (.bool true)], args := [d1, d2, d3, d4] }
  | _ => none }
def scanTakesRow : OpenClaim := { program := "ytmcfihpbiilbcaa", sum := "a81b15a32e55192567fc3c5fcd7c3fc5c842cca99d1c4b61273b3efd51a6f9a0", func := "splice/splicelaw08.ScanTakes", spec := "scanTakes", inPlace := ["math.Float64bits", "math.Float64frombits"], unfollowed := true, recurses := true, apart := false }
def ScanTakesSaid : Prop := scanTakesRow.holds Try.pinned (OpenSpec.ofChange scanTakesSpec)

/-- ITS FALSE NEIGHBOUR: 'it returns false'. Refute it at one input. -/
def scanTakesWrong : ChangeSpec := { name := "scanTakes", fn := fun _ => fun
  | [d1, d2, d3, d4] => { results := [.lit (.bool false)], args := [d1, d2, d3, d4] }
  | _ => none }
def ScanTakesWrongFalsely : Prop := scanTakesRow.holds Try.pinned (OpenSpec.ofChange scanTakesWrong)

/-- 'splicelaw15.ImageWrites': WHATEVER THE INPUT: true; the input reads as it did. -/
def imageWritesSpec : ChangeSpec := { name := "imageWrites", fn := fun _ => fun
  | [d] => { results := [.lit (.bool true)], args := [d] }
  | _ => none }
def imageWritesRow : OpenClaim := { program := "ytmcfihpbiilbcaa", sum := "a81b15a32e55192567fc3c5fcd7c3fc5c842cca99d1c4b61273b3efd51a6f9a0", func := "splice/splicelaw15.ImageWrites", spec := "imageWrites", unfollowed := true, recurses := true, apart := false }
def ImageWritesSaid : Prop := imageWritesRow.holds Try.pinned (OpenSpec.ofChange imageWritesSpec)

/-- ITS FALSE NEIGHBOUR: 'it returns false'. Refute it at one input. -/
def imageWritesWrong : ChangeSpec := { name := "imageWrites", fn := fun _ => fun
  | [d] => { results := [.lit (.bool false)], args := [d] }
  | _ => none }
def ImageWritesWrongFalsely : Prop := imageWritesRow.holds Try.pinned (OpenSpec.ofChange imageWritesWrong)

/-- 'splicelaw15.ImageReads': WHATEVER THE INPUT: true; the input reads as it did. -/
def imageReadsSpec : ChangeSpec := { name := "imageReads", fn := fun _ => fun
  | [d] => { results := [.lit (.bool true)], args := [d] }
  | _ => none }
def imageReadsRow : OpenClaim := { program := "ytmcfihpbiilbcaa", sum := "a81b15a32e55192567fc3c5fcd7c3fc5c842cca99d1c4b61273b3efd51a6f9a0", func := "splice/splicelaw15.ImageReads", spec := "imageReads", unfollowed := true, recurses := true, apart := false }
def ImageReadsSaid : Prop := imageReadsRow.holds Try.pinned (OpenSpec.ofChange imageReadsSpec)

/-- ITS FALSE NEIGHBOUR: 'it returns false'. Refute it at one input. -/
def imageReadsWrong : ChangeSpec := { name := "imageReads", fn := fun _ => fun
  | [d] => { results := [.lit (.bool false)], args := [d] }
  | _ => none }
def ImageReadsWrongFalsely : Prop := imageReadsRow.holds Try.pinned (OpenSpec.ofChange imageReadsWrong)

/-- 'splicelaw15.ImageBack': WHATEVER THE INPUT: true; the input reads as it did. -/
def imageBackSpec : ChangeSpec := { name := "imageBack", fn := fun _ => fun
  | [d1, d2, d3] => { results := [.lit (.bool true)], args := [d1, d2, d3] }
  | _ => none }
def imageBackRow : OpenClaim := { program := "ytmcfihpbiilbcaa", sum := "a81b15a32e55192567fc3c5fcd7c3fc5c842cca99d1c4b61273b3efd51a6f9a0", func := "splice/splicelaw15.ImageBack", spec := "imageBack", unfollowed := true, recurses := true, apart := false }
def ImageBackSaid : Prop := imageBackRow.holds Try.pinned (OpenSpec.ofChange imageBackSpec)

/-- ITS FALSE NEIGHBOUR: 'it returns false'. Refute it at one input. -/
def imageBackWrong : ChangeSpec := { name := "imageBack", fn := fun _ => fun
  | [d1, d2, d3] => { results := [.lit (.bool false)], args := [d1, d2, d3] }
  | _ => none }
def ImageBackWrongFalsely : Prop := imageBackRow.holds Try.pinned (OpenSpec.ofChange imageBackWrong)

/-- 'splicelaw15.ImageKeeps': WHATEVER THE INPUT: true; the input reads as it did. -/
def imageKeepsSpec : ChangeSpec := { name := "imageKeeps", fn := fun _ => fun
  | [d] => { results := [.lit (.bool true)], args := [d] }
  | _ => none }
def imageKeepsRow : OpenClaim := { program := "ytmcfihpbiilbcaa", sum := "a81b15a32e55192567fc3c5fcd7c3fc5c842cca99d1c4b61273b3efd51a6f9a0", func := "splice/splicelaw15.ImageKeeps", spec := "imageKeeps", unfollowed := true, recurses := true, apart := false }
def ImageKeepsSaid : Prop := imageKeepsRow.holds Try.pinned (OpenSpec.ofChange imageKeepsSpec)

/-- ITS FALSE NEIGHBOUR: 'it returns false'. Refute it at one input. -/
def imageKeepsWrong : ChangeSpec := { name := "imageKeeps", fn := fun _ => fun
  | [d] => { results := [.lit (.bool false)], args := [d] }
  | _ => none }
def ImageKeepsWrongFalsely : Prop := imageKeepsRow.holds Try.pinned (OpenSpec.ofChange imageKeepsWrong)

/-- 'splicelaw24.WeightWrites': WHATEVER THE INPUT: true; the input reads as it did. -/
def weightWritesSpec : ChangeSpec := { name := "weightWrites", fn := fun _ => fun
  | [d] => { results := [.lit (.bool true)], args := [d] }
  | _ => none }
def weightWritesRow : OpenClaim := { program := "ytmcfihpbiilbcaa", sum := "a81b15a32e55192567fc3c5fcd7c3fc5c842cca99d1c4b61273b3efd51a6f9a0", func := "splice/splicelaw24.WeightWrites", spec := "weightWrites", inPlace := ["math.Float64bits", "math.Float64frombits"], unfollowed := true, recurses := true, apart := false }
def WeightWritesSaid : Prop := weightWritesRow.holds Try.pinned (OpenSpec.ofChange weightWritesSpec)

/-- ITS FALSE NEIGHBOUR: 'it returns false'. Refute it at one input. -/
def weightWritesWrong : ChangeSpec := { name := "weightWrites", fn := fun _ => fun
  | [d] => { results := [.lit (.bool false)], args := [d] }
  | _ => none }
def WeightWritesWrongFalsely : Prop := weightWritesRow.holds Try.pinned (OpenSpec.ofChange weightWritesWrong)

/-- 'splicelaw24.WeightReads': WHATEVER THE INPUT: true; the input reads as it did. -/
def weightReadsSpec : ChangeSpec := { name := "weightReads", fn := fun _ => fun
  | [d1, d2, d3] => { results := [.lit (.bool true)], args := [d1, d2, d3] }
  | _ => none }
def weightReadsRow : OpenClaim := { program := "ytmcfihpbiilbcaa", sum := "a81b15a32e55192567fc3c5fcd7c3fc5c842cca99d1c4b61273b3efd51a6f9a0", func := "splice/splicelaw24.WeightReads", spec := "weightReads", inPlace := ["math.Float64bits", "math.Float64frombits"], unfollowed := true, recurses := true, apart := false }
def WeightReadsSaid : Prop := weightReadsRow.holds Try.pinned (OpenSpec.ofChange weightReadsSpec)

/-- ITS FALSE NEIGHBOUR: 'it returns false'. Refute it at one input. -/
def weightReadsWrong : ChangeSpec := { name := "weightReads", fn := fun _ => fun
  | [d1, d2, d3] => { results := [.lit (.bool false)], args := [d1, d2, d3] }
  | _ => none }
def WeightReadsWrongFalsely : Prop := weightReadsRow.holds Try.pinned (OpenSpec.ofChange weightReadsWrong)

/-- 'splicelaw24.WeightKeeps': WHATEVER THE INPUT: true; the input reads as it did. -/
def weightKeepsSpec : ChangeSpec := { name := "weightKeeps", fn := fun _ => fun
  | [d] => { results := [.lit (.bool true)], args := [d] }
  | _ => none }
def weightKeepsRow : OpenClaim := { program := "ytmcfihpbiilbcaa", sum := "a81b15a32e55192567fc3c5fcd7c3fc5c842cca99d1c4b61273b3efd51a6f9a0", func := "splice/splicelaw24.WeightKeeps", spec := "weightKeeps", inPlace := ["math.Float64bits", "math.Float64frombits"], unfollowed := true, recurses := true, apart := false }
def WeightKeepsSaid : Prop := weightKeepsRow.holds Try.pinned (OpenSpec.ofChange weightKeepsSpec)

/-- ITS FALSE NEIGHBOUR: 'it returns false'. Refute it at one input. -/
def weightKeepsWrong : ChangeSpec := { name := "weightKeeps", fn := fun _ => fun
  | [d] => { results := [.lit (.bool false)], args := [d] }
  | _ => none }
def WeightKeepsWrongFalsely : Prop := weightKeepsRow.holds Try.pinned (OpenSpec.ofChange weightKeepsWrong)

/-- 'splicelaw24.WeightScale': WHATEVER THE INPUT: true; the input reads as it did. -/
def weightScaleSpec : ChangeSpec := { name := "weightScale", fn := fun _ => fun
  | [d1, d2] => { results := [.lit (.bool true)], args := [d1, d2] }
  | _ => none }
def weightScaleRow : OpenClaim := { program := "ytmcfihpbiilbcaa", sum := "a81b15a32e55192567fc3c5fcd7c3fc5c842cca99d1c4b61273b3efd51a6f9a0", func := "splice/splicelaw24.WeightScale", spec := "weightScale", inPlace := ["math.Float64bits", "math.Float64frombits"], unfollowed := true, recurses := true, apart := false }
def WeightScaleSaid : Prop := weightScaleRow.holds Try.pinned (OpenSpec.ofChange weightScaleSpec)

/-- ITS FALSE NEIGHBOUR: 'it returns false'. Refute it at one input. -/
def weightScaleWrong : ChangeSpec := { name := "weightScale", fn := fun _ => fun
  | [d1, d2] => { results := [.lit (.bool false)], args := [d1, d2] }
  | _ => none }
def WeightScaleWrongFalsely : Prop := weightScaleRow.holds Try.pinned (OpenSpec.ofChange weightScaleWrong)

/-- 'splicelaw24.WeightClean': WHATEVER THE INPUT: true; the input reads as it did. -/
def weightCleanSpec : ChangeSpec := { name := "weightClean", fn := fun _ => fun
  | [d1, d2] => { results := [.lit (.bool true)], args := [d1, d2] }
  | _ => none }
def weightCleanRow : OpenClaim := { program := "ytmcfihpbiilbcaa", sum := "a81b15a32e55192567fc3c5fcd7c3fc5c842cca99d1c4b61273b3efd51a6f9a0", func := "splice/splicelaw24.WeightClean", spec := "weightClean", inPlace := ["math.Float64frombits", "math.Float64bits"], unfollowed := true, recurses := true, apart := false }
def WeightCleanSaid : Prop := weightCleanRow.holds Try.pinned (OpenSpec.ofChange weightCleanSpec)

/-- ITS FALSE NEIGHBOUR: 'it returns false'. Refute it at one input. -/
def weightCleanWrong : ChangeSpec := { name := "weightClean", fn := fun _ => fun
  | [d1, d2] => { results := [.lit (.bool false)], args := [d1, d2] }
  | _ => none }
def WeightCleanWrongFalsely : Prop := weightCleanRow.holds Try.pinned (OpenSpec.ofChange weightCleanWrong)

/-- 'splicelaw24.WeightSums': WHATEVER THE INPUT: true; the input reads as it did. -/
def weightSumsSpec : ChangeSpec := { name := "weightSums", fn := fun _ => fun
  | [d1, d2, d3, d4] => { results := [.lit (.bool true)], args := [d1, d2, d3, d4] }
  | _ => none }
def weightSumsRow : OpenClaim := { program := "ytmcfihpbiilbcaa", sum := "a81b15a32e55192567fc3c5fcd7c3fc5c842cca99d1c4b61273b3efd51a6f9a0", func := "splice/splicelaw24.WeightSums", spec := "weightSums", inPlace := ["math.Float64bits", "math.Float64frombits"], unfollowed := true, recurses := true, apart := false }
def WeightSumsSaid : Prop := weightSumsRow.holds Try.pinned (OpenSpec.ofChange weightSumsSpec)

/-- ITS FALSE NEIGHBOUR: 'it returns false'. Refute it at one input. -/
def weightSumsWrong : ChangeSpec := { name := "weightSums", fn := fun _ => fun
  | [d1, d2, d3, d4] => { results := [.lit (.bool false)], args := [d1, d2, d3, d4] }
  | _ => none }
def WeightSumsWrongFalsely : Prop := weightSumsRow.holds Try.pinned (OpenSpec.ofChange weightSumsWrong)

/-- 'splicelaw09.ObjectWrites': WHATEVER THE INPUT: true; the input reads as it did. -/
def objectWritesSpec : ChangeSpec := { name := "objectWrites", fn := fun _ => fun
  | [d] => { results := [.lit (.bool true)], args := [d] }
  | _ => none }
def objectWritesRow : OpenClaim := { program := "ytmcfihpbiilbcaa", sum := "a81b15a32e55192567fc3c5fcd7c3fc5c842cca99d1c4b61273b3efd51a6f9a0", func := "splice/splicelaw09.ObjectWrites", spec := "objectWrites", unfollowed := true, recurses := true, apart := false }
def ObjectWritesSaid : Prop := objectWritesRow.holds Try.pinned (OpenSpec.ofChange objectWritesSpec)

/-- ITS FALSE NEIGHBOUR: 'it returns false'. Refute it at one input. -/
def objectWritesWrong : ChangeSpec := { name := "objectWrites", fn := fun _ => fun
  | [d] => { results := [.lit (.bool false)], args := [d] }
  | _ => none }
def ObjectWritesWrongFalsely : Prop := objectWritesRow.holds Try.pinned (OpenSpec.ofChange objectWritesWrong)

/-- 'splicelaw09.ObjectReads': WHATEVER THE INPUT: true; the input reads as it did. -/
def objectReadsSpec : ChangeSpec := { name := "objectReads", fn := fun _ => fun
  | [d] => { results := [.lit (.bool true)], args := [d] }
  | _ => none }
def objectReadsRow : OpenClaim := { program := "ytmcfihpbiilbcaa", sum := "a81b15a32e55192567fc3c5fcd7c3fc5c842cca99d1c4b61273b3efd51a6f9a0", func := "splice/splicelaw09.ObjectReads", spec := "objectReads", unfollowed := true, recurses := true, apart := false }
def ObjectReadsSaid : Prop := objectReadsRow.holds Try.pinned (OpenSpec.ofChange objectReadsSpec)

/-- ITS FALSE NEIGHBOUR: 'it returns false'. Refute it at one input. -/
def objectReadsWrong : ChangeSpec := { name := "objectReads", fn := fun _ => fun
  | [d] => { results := [.lit (.bool false)], args := [d] }
  | _ => none }
def ObjectReadsWrongFalsely : Prop := objectReadsRow.holds Try.pinned (OpenSpec.ofChange objectReadsWrong)

/-- 'splicelaw09.ObjectBack': WHATEVER THE INPUT: true; the input reads as it did. -/
def objectBackSpec : ChangeSpec := { name := "objectBack", fn := fun _ => fun
  | [d1, d2] => { results := [.lit (.bool true)], args := [d1, d2] }
  | _ => none }
def objectBackRow : OpenClaim := { program := "ytmcfihpbiilbcaa", sum := "a81b15a32e55192567fc3c5fcd7c3fc5c842cca99d1c4b61273b3efd51a6f9a0", func := "splice/splicelaw09.ObjectBack", spec := "objectBack", unfollowed := true, recurses := true, apart := false }
def ObjectBackSaid : Prop := objectBackRow.holds Try.pinned (OpenSpec.ofChange objectBackSpec)

/-- ITS FALSE NEIGHBOUR: 'it returns false'. Refute it at one input. -/
def objectBackWrong : ChangeSpec := { name := "objectBack", fn := fun _ => fun
  | [d1, d2] => { results := [.lit (.bool false)], args := [d1, d2] }
  | _ => none }
def ObjectBackWrongFalsely : Prop := objectBackRow.holds Try.pinned (OpenSpec.ofChange objectBackWrong)

/-- 'splicelaw09.ObjectSames': WHATEVER THE INPUT: true; the input reads as it did. -/
def objectSamesSpec : ChangeSpec := { name := "objectSames", fn := fun _ => fun
  | [d1, d2] => { results := [.lit (.bool true)], args := [d1, d2] }
  | _ => none }
def objectSamesRow : OpenClaim := { program := "ytmcfihpbiilbcaa", sum := "a81b15a32e55192567fc3c5fcd7c3fc5c842cca99d1c4b61273b3efd51a6f9a0", func := "splice/splicelaw09.ObjectSames", spec := "objectSames", unfollowed := true, recurses := true, apart := false }
def ObjectSamesSaid : Prop := objectSamesRow.holds Try.pinned (OpenSpec.ofChange objectSamesSpec)

/-- ITS FALSE NEIGHBOUR: 'it returns false'. Refute it at one input. -/
def objectSamesWrong : ChangeSpec := { name := "objectSames", fn := fun _ => fun
  | [d1, d2] => { results := [.lit (.bool false)], args := [d1, d2] }
  | _ => none }
def ObjectSamesWrongFalsely : Prop := objectSamesRow.holds Try.pinned (OpenSpec.ofChange objectSamesWrong)

/-- 'splicelaw09.ObjectCut': WHATEVER THE INPUT: true; the input reads as it did. -/
def objectCutSpec : ChangeSpec := { name := "objectCut", fn := fun _ => fun
  | [d1, d2, d3] => { results := [.lit (.bool true)], args := [d1, d2, d3] }
  | _ => none }
def objectCutRow : OpenClaim := { program := "ytmcfihpbiilbcaa", sum := "a81b15a32e55192567fc3c5fcd7c3fc5c842cca99d1c4b61273b3efd51a6f9a0", func := "splice/splicelaw09.ObjectCut", spec := "objectCut", unfollowed := true, recurses := true, apart := false }
def ObjectCutSaid : Prop := objectCutRow.holds Try.pinned (OpenSpec.ofChange objectCutSpec)

/-- ITS FALSE NEIGHBOUR: 'it returns false'. Refute it at one input. -/
def objectCutWrong : ChangeSpec := { name := "objectCut", fn := fun _ => fun
  | [d1, d2, d3] => { results := [.lit (.bool false)], args := [d1, d2, d3] }
  | _ => none }
def ObjectCutWrongFalsely : Prop := objectCutRow.holds Try.pinned (OpenSpec.ofChange objectCutWrong)

/-- 'splicelaw09.ObjectKeeps': WHATEVER THE INPUT: true; the input reads as it did. -/
def objectKeepsSpec : ChangeSpec := { name := "objectKeeps", fn := fun _ => fun
  | [d] => { results := [.lit (.bool true)], args := [d] }
  | _ => none }
def objectKeepsRow : OpenClaim := { program := "ytmcfihpbiilbcaa", sum := "a81b15a32e55192567fc3c5fcd7c3fc5c842cca99d1c4b61273b3efd51a6f9a0", func := "splice/splicelaw09.ObjectKeeps", spec := "objectKeeps", unfollowed := true, recurses := true, apart := false }
def ObjectKeepsSaid : Prop := objectKeepsRow.holds Try.pinned (OpenSpec.ofChange objectKeepsSpec)

/-- ITS FALSE NEIGHBOUR: 'it returns false'. Refute it at one input. -/
def objectKeepsWrong : ChangeSpec := { name := "objectKeeps", fn := fun _ => fun
  | [d] => { results := [.lit (.bool false)], args := [d] }
  | _ => none }
def ObjectKeepsWrongFalsely : Prop := objectKeepsRow.holds Try.pinned (OpenSpec.ofChange objectKeepsWrong)

/- THE SECOND FORM. 'bulk': how many values and letters a reading holds, each counted each time it is reached (what is shared counts as often as it is met; a slice's spare places count too). A statement '..UptoSaid' is the law's where the arguments, and the package variables that the reading takes, are together of bulk at most 1048576: NARROWER than '..Said'. Prove '..Said' where nothing that the law and all that it calls make is longer than what came in: it says more and counts as full. Else prove '..UptoSaid'. A law counts once. -/
mutual
def uptoBulk {H : Type} : DataW H → Nat
  | .lit (.string bytes) => bytes.length + 1
  | .lit _ => 1
  | .nil => 1
  | .ptr d => uptoBulk d + 1
  | .slice elems spare => uptoBulkAll elems + uptoBulkAll spare + 1
  | .agg parts => uptoBulkAll parts + 1
  | .iface _ d => uptoBulk d + 1
  | .map entries => uptoBulkEntries entries + 1
  | .held _ => 1
def uptoBulkAll {H : Type} : List (DataW H) → Nat
  | [] => 0
  | d :: r => uptoBulk d + uptoBulkAll r
def uptoBulkEntries {H : Type} : List (Lit × DataW H) → Nat
  | [] => 0
  | x :: r => uptoBulkEntry x + uptoBulkEntries r
def uptoBulkEntry {H : Type} : Lit × DataW H → Nat
  | (.string bytes, d) => bytes.length + uptoBulk d + 1
  | (_, d) => uptoBulk d + 1
 end
def uptoSmall : (H : Type) → List (DataW H) → Bool := fun _ ds => decide (uptoBulkAll ds ≤ 1048576)
def OpenSpec.upto (s : _root_.Go.ChangeSpec) : _root_.Go.OpenSpec := { _root_.Go.OpenSpec.ofChange s with cond := some uptoSmall }

/-- 'splicelaw08.ScanTries', WHERE WHAT IT READS IS OF BULK AT MOST 1048576: true; the input reads as it did. -/
def scanTriesUptoRow : OpenClaim := { program := "ytmcfihpbiilbcaa", sum := "a81b15a32e55192567fc3c5fcd7c3fc5c842cca99d1c4b61273b3efd51a6f9a0", func := "splice/splicelaw08.ScanTries", spec := "scanTries", inPlace := ["math.Float64bits"], unfollowed := true, recurses := true, apart := false, narrowed := true }
def ScanTriesUptoSaid : Prop := scanTriesUptoRow.holds Try.pinned (OpenSpec.upto scanTriesSpec)

/-- 'splicelaw08.ScanKeeps', WHERE WHAT IT READS IS OF BULK AT MOST 1048576: true; the input reads as it did. -/
def scanKeepsUptoRow : OpenClaim := { program := "ytmcfihpbiilbcaa", sum := "a81b15a32e55192567fc3c5fcd7c3fc5c842cca99d1c4b61273b3efd51a6f9a0", func := "splice/splicelaw08.ScanKeeps", spec := "scanKeeps", inPlace := ["math.Float64bits"], unfollowed := true, recurses := true, apart := false, narrowed := true }
def ScanKeepsUptoSaid : Prop := scanKeepsUptoRow.holds Try.pinned (OpenSpec.upto scanKeepsSpec)

/-- 'splicelaw08.ScanNames', WHERE WHAT IT READS IS OF BULK AT MOST 1048576: true; the input reads as it did. -/
def scanNamesUptoRow : OpenClaim := { program := "ytmcfihpbiilbcaa", sum := "a81b15a32e55192567fc3c5fcd7c3fc5c842cca99d1c4b61273b3efd51a6f9a0", func := "splice/splicelaw08.ScanNames", spec := "scanNames", inPlace := ["math.Float64bits"], unfollowed := true, recurses := true, apart := false, narrowed := true }
def ScanNamesUptoSaid : Prop := scanNamesUptoRow.holds Try.pinned (OpenSpec.upto scanNamesSpec)

/-- 'splicelaw08.ScanActs', WHERE WHAT IT READS IS OF BULK AT MOST 1048576: true; the input reads as it did. -/
def scanActsUptoRow : OpenClaim := { program := "ytmcfihpbiilbcaa", sum := "a81b15a32e55192567fc3c5fcd7c3fc5c842cca99d1c4b61273b3efd51a6f9a0", func := "splice/splicelaw08.ScanActs", spec := "scanActs", inPlace := ["math.Float64bits", "math.Float64frombits"], unfollowed := true, recurses := true, apart := false, narrowed := true }
def ScanActsUptoSaid : Prop := scanActsUptoRow.holds Try.pinned (OpenSpec.upto scanActsSpec)

/-- 'splicelaw08.ScanTakes', WHERE WHAT IT READS IS OF BULK AT MOST 1048576: true; the input reads as it did. -/
def scanTakesUptoRow : OpenClaim := { program := "ytmcfihpbiilbcaa", sum := "a81b15a32e55192567fc3c5fcd7c3fc5c842cca99d1c4b61273b3efd51a6f9a0", func := "splice/splicelaw08.ScanTakes", spec := "scanTakes", inPlace := ["math.Float64bits", "math.Float64frombits"], unfollowed := true, recurses := true, apart := false, narrowed := true }
def ScanTakesUptoSaid : Prop := scanTakesUptoRow.holds Try.pinned (OpenSpec.upto scanTakesSpec)

/-- 'splicelaw15.ImageWrites', WHERE WHAT IT READS IS OF BULK AT MOST 1048576: true; the input reads as it did. -/
def imageWritesUptoRow : OpenClaim := { program := "ytmcfihpbiilbcaa", sum := "a81b15a32e55192567fc3c5fcd7c3fc5c842cca99d1c4b61273b3efd51a6f9a0", func := "splice/splicelaw15.ImageWrites", spec := "imageWrites", unfollowed := true, recurses := true, apart := false, narrowed := true }
def ImageWritesUptoSaid : Prop := imageWritesUptoRow.holds Try.pinned (OpenSpec.upto imageWritesSpec)

/-- 'splicelaw15.ImageReads', WHERE WHAT IT READS IS OF BULK AT MOST 1048576: true; the input reads as it did. -/
def imageReadsUptoRow : OpenClaim := { program := "ytmcfihpbiilbcaa", sum := "a81b15a32e55192567fc3c5fcd7c3fc5c842cca99d1c4b61273b3efd51a6f9a0", func := "splice/splicelaw15.ImageReads", spec := "imageReads", unfollowed := true, recurses := true, apart := false, narrowed := true }
def ImageReadsUptoSaid : Prop := imageReadsUptoRow.holds Try.pinned (OpenSpec.upto imageReadsSpec)

/-- 'splicelaw15.ImageBack', WHERE WHAT IT READS IS OF BULK AT MOST 1048576: true; the input reads as it did. -/
def imageBackUptoRow : OpenClaim := { program := "ytmcfihpbiilbcaa", sum := "a81b15a32e55192567fc3c5fcd7c3fc5c842cca99d1c4b61273b3efd51a6f9a0", func := "splice/splicelaw15.ImageBack", spec := "imageBack", unfollowed := true, recurses := true, apart := false, narrowed := true }
def ImageBackUptoSaid : Prop := imageBackUptoRow.holds Try.pinned (OpenSpec.upto imageBackSpec)

/-- 'splicelaw15.ImageKeeps', WHERE WHAT IT READS IS OF BULK AT MOST 1048576: true; the input reads as it did. -/
def imageKeepsUptoRow : OpenClaim := { program := "ytmcfihpbiilbcaa", sum := "a81b15a32e55192567fc3c5fcd7c3fc5c842cca99d1c4b61273b3efd51a6f9a0", func := "splice/splicelaw15.ImageKeeps", spec := "imageKeeps", unfollowed := true, recurses := true, apart := false, narrowed := true }
def ImageKeepsUptoSaid : Prop := imageKeepsUptoRow.holds Try.pinned (OpenSpec.upto imageKeepsSpec)

/-- 'splicelaw24.WeightWrites', WHERE WHAT IT READS IS OF BULK AT MOST 1048576: true; the input reads as it did. -/
def weightWritesUptoRow : OpenClaim := { program := "ytmcfihpbiilbcaa", sum := "a81b15a32e55192567fc3c5fcd7c3fc5c842cca99d1c4b61273b3efd51a6f9a0", func := "splice/splicelaw24.WeightWrites", spec := "weightWrites", inPlace := ["math.Float64bits", "math.Float64frombits"], unfollowed := true, recurses := true, apart := false, narrowed := true }
def WeightWritesUptoSaid : Prop := weightWritesUptoRow.holds Try.pinned (OpenSpec.upto weightWritesSpec)

/-- 'splicelaw24.WeightReads', WHERE WHAT IT READS IS OF BULK AT MOST 1048576: true; the input reads as it did. -/
def weightReadsUptoRow : OpenClaim := { program := "ytmcfihpbiilbcaa", sum := "a81b15a32e55192567fc3c5fcd7c3fc5c842cca99d1c4b61273b3efd51a6f9a0", func := "splice/splicelaw24.WeightReads", spec := "weightReads", inPlace := ["math.Float64bits", "math.Float64frombits"], unfollowed := true, recurses := true, apart := false, narrowed := true }
def WeightReadsUptoSaid : Prop := weightReadsUptoRow.holds Try.pinned (OpenSpec.upto weightReadsSpec)

/-- 'splicelaw24.WeightKeeps', WHERE WHAT IT READS IS OF BULK AT MOST 1048576: true; the input reads as it did. -/
def weightKeepsUptoRow : OpenClaim := { program := "ytmcfihpbiilbcaa", sum := "a81b15a32e55192567fc3c5fcd7c3fc5c842cca99d1c4b61273b3efd51a6f9a0", func := "splice/splicelaw24.WeightKeeps", spec := "weightKeeps", inPlace := ["math.Float64bits", "math.Float64frombits"], unfollowed := true, recurses := true, apart := false, narrowed := true }
def WeightKeepsUptoSaid : Prop := weightKeepsUptoRow.holds Try.pinned (OpenSpec.upto weightKeepsSpec)

/-- 'splicelaw24.WeightScale', WHERE WHAT IT READS IS OF BULK AT MOST 1048576: true; the input reads as it did. -/
def weightScaleUptoRow : OpenClaim := { program := "ytmcfihpbiilbcaa", sum := "a81b15a32e55192567fc3c5fcd7c3fc5c842cca99d1c4b61273b3efd51a6f9a0", func := "splice/splicelaw24.WeightScale", spec := "weightScale", inPlace := ["math.Float64bits", "math.Float64frombits"], unfollowed := true, recurses := true, apart := false, narrowed := true }
def WeightScaleUptoSaid : Prop := weightScaleUptoRow.holds Try.pinned (OpenSpec.upto weightScaleSpec)

/-- 'splicelaw24.WeightClean', WHERE WHAT IT READS IS OF BULK AT MOST 1048576: true; the input reads as it did. -/
def weightCleanUptoRow : OpenClaim := { program := "ytmcfihpbiilbcaa", sum := "a81b15a32e55192567fc3c5fcd7c3fc5c842cca99d1c4b61273b3efd51a6f9a0", func := "splice/splicelaw24.WeightClean", spec := "weightClean", inPlace := ["math.Float64frombits", "math.Float64bits"], unfollowed := true, recurses := true, apart := false, narrowed := true }
def WeightCleanUptoSaid : Prop := weightCleanUptoRow.holds Try.pinned (OpenSpec.upto weightCleanSpec)

/-- 'splicelaw24.WeightSums', WHERE WHAT IT READS IS OF BULK AT MOST 1048576: true; the input reads as it did. -/
def weightSumsUptoRow : OpenClaim := { program := "ytmcfihpbiilbcaa", sum := "a81b15a32e55192567fc3c5fcd7c3fc5c842cca99d1c4b61273b3efd51a6f9a0", func := "splice/splicelaw24.WeightSums", spec := "weightSums", inPlace := ["math.Float64bits", "math.Float64frombits"], unfollowed := true, recurses := true, apart := false, narrowed := true }
def WeightSumsUptoSaid : Prop := weightSumsUptoRow.holds Try.pinned (OpenSpec.upto weightSumsSpec)

/-- 'splicelaw09.ObjectWrites', WHERE WHAT IT READS IS OF BULK AT MOST 1048576: true; the input reads as it did. -/
def objectWritesUptoRow : OpenClaim := { program := "ytmcfihpbiilbcaa", sum := "a81b15a32e55192567fc3c5fcd7c3fc5c842cca99d1c4b61273b3efd51a6f9a0", func := "splice/splicelaw09.ObjectWrites", spec := "objectWrites", unfollowed := true, recurses := true, apart := false, narrowed := true }
def ObjectWritesUptoSaid : Prop := objectWritesUptoRow.holds Try.pinned (OpenSpec.upto objectWritesSpec)

/-- 'splicelaw09.ObjectReads', WHERE WHAT IT READS IS OF BULK AT MOST 1048576: true; the input reads as it did. -/
def objectReadsUptoRow : OpenClaim := { program := "ytmcfihpbiilbcaa", sum := "a81b15a32e55192567fc3c5fcd7c3fc5c842cca99d1c4b61273b3efd51a6f9a0", func := "splice/splicelaw09.ObjectReads", spec := "objectReads", unfollowed := true, recurses := true, apart := false, narrowed := true }
def ObjectReadsUptoSaid : Prop := objectReadsUptoRow.holds Try.pinned (OpenSpec.upto objectReadsSpec)

/-- 'splicelaw09.ObjectBack', WHERE WHAT IT READS IS OF BULK AT MOST 1048576: true; the input reads as it did. -/
def objectBackUptoRow : OpenClaim := { program := "ytmcfihpbiilbcaa", sum := "a81b15a32e55192567fc3c5fcd7c3fc5c842cca99d1c4b61273b3efd51a6f9a0", func := "splice/splicelaw09.ObjectBack", spec := "objectBack", unfollowed := true, recurses := true, apart := false, narrowed := true }
def ObjectBackUptoSaid : Prop := objectBackUptoRow.holds Try.pinned (OpenSpec.upto objectBackSpec)

/-- 'splicelaw09.ObjectSames', WHERE WHAT IT READS IS OF BULK AT MOST 1048576: true; the input reads as it did. -/
def objectSamesUptoRow : OpenClaim := { program := "ytmcfihpbiilbcaa", sum := "a81b15a32e55192567fc3c5fcd7c3fc5c842cca99d1c4b61273b3efd51a6f9a0", func := "splice/splicelaw09.ObjectSames", spec := "objectSames", unfollowed := true, recurses := true, apart := false, narrowed := true }
def ObjectSamesUptoSaid : Prop := objectSamesUptoRow.holds Try.pinned (OpenSpec.upto objectSamesSpec)

/-- 'splicelaw09.ObjectCut', WHERE WHAT IT READS IS OF BULK AT MOST 1048576: true; the input reads as it did. -/
def objectCutUptoRow : OpenClaim := { program := "ytmcfihpbiilbcaa", sum := "a81b15a32e55192567fc3c5fcd7c3fc5c842cca99d1c4b61273b3efd51a6f9a0", func := "splice/splicelaw09.ObjectCut", spec := "objectCut", unfollowed := true, recurses := true, apart := false, narrowed := true }
def ObjectCutUptoSaid : Prop := objectCutUptoRow.holds Try.pinned (OpenSpec.upto objectCutSpec)

/-- 'splicelaw09.ObjectKeeps', WHERE WHAT IT READS IS OF BULK AT MOST 1048576: true; the input reads as it did. -/
def objectKeepsUptoRow : OpenClaim := { program := "ytmcfihpbiilbcaa", sum := "a81b15a32e55192567fc3c5fcd7c3fc5c842cca99d1c4b61273b3efd51a6f9a0", func := "splice/splicelaw09.ObjectKeeps", spec := "objectKeeps", unfollowed := true, recurses := true, apart := false, narrowed := true }
def ObjectKeepsUptoSaid : Prop := objectKeepsUptoRow.holds Try.pinned (OpenSpec.upto objectKeepsSpec)

end Rows
end Go.Proofs.Ytmcfihpbiilbcaa
