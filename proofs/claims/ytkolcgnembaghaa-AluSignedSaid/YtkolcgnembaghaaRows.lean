/-
  No cell of these rows narrows 'for every input' (looked for: loops, veiled, ifaces, maps, wideKeys, modest, calm, conditions, laid).
  DERIVED. THE GIVEN ROWS OF THIS SEAT. 15 by the template 'for every input the law returns true; each argument reads behind the call as it read before'; 0 by the template 'total and deterministic' (their statements: YtkolcgnembaghaaTotals.lean).
  GIVEN WITH THE SEED: the statements are not yours to turn. If you find one false, say at which input.
  Laid BY PROGRAM, IN A SANDBOX (cutbox-rows.mjs): the forced cells as the released guide's own fill.sh prints them over the translation feeaf097ac100e00… (all of the seat's roots in one cut). By AI agents, Wed Nov 11 2026. No macro, syntax, notation, axiom, sorry.
-/
import Derived.Test.YtkolcgnembaghaaChecked
import GoSem.Claim
import GoSem.ClaimJoined
import GoSem.ClaimMapViews
import Derived.JoinedTies
import Derived.KernelRfl
namespace Go.Proofs.Ytkolcgnembaghaa
/- THE CELL 'sum', in the pinned program and in every row, IS THE sha256 OF THE DUMP (.gsa) THAT YtkolcgnembaghaaProg.lean LOADS. Nothing in Lean hashes anything: it is a label: what it is worth is what the hold of that sum in a sandbox is worth. -/
noncomputable def Try.pinned : Pinned := { name := "ytkolcgnembaghaa", sum := "feeaf097ac100e00fa0191de61dc714377a2f82f9e9f22d6d3a6d3a81aa66f9f", checked := Try.checked }
namespace Rows
def none {H : Type} : Left H := { results := [], args := [] }

/-- 'splicelaw01.BitsWords': WHATEVER THE INPUT: true; the input reads as it did. -/
def bitsWordsSpec : ChangeSpec := { name := "bitsWords", fn := fun _ => fun
  | [d1, d2] => { results := [.lit (.bool true)], args := [d1, d2] }
  | _ => none }
def bitsWordsRow : OpenClaim := { program := "ytkolcgnembaghaa", sum := "feeaf097ac100e00fa0191de61dc714377a2f82f9e9f22d6d3a6d3a81aa66f9f", func := "splice/splicelaw01.BitsWords", spec := "bitsWords", apart := false }
def BitsWordsSaid : Prop := bitsWordsRow.holds Try.pinned (OpenSpec.ofChange bitsWordsSpec)

/-- ITS FALSE NEIGHBOUR: 'it returns false'. Refute it at one input. -/
def bitsWordsWrong : ChangeSpec := { name := "bitsWords", fn := fun _ => fun
  | [d1, d2] => { results := [.lit (.bool false)], args := [d1, d2] }
  | _ => none }
def BitsWordsWrongFalsely : Prop := bitsWordsRow.holds Try.pinned (OpenSpec.ofChange bitsWordsWrong)

/-- 'splicelaw01.BitsUps': WHATEVER THE INPUT: true; the input reads as it did. -/
def bitsUpsSpec : ChangeSpec := { name := "bitsUps", fn := fun _ => fun
  | [d1, d2] => { results := [.lit (.bool true)], args := [d1, d2] }
  | _ => none }
def bitsUpsRow : OpenClaim := { program := "ytkolcgnembaghaa", sum := "feeaf097ac100e00fa0191de61dc714377a2f82f9e9f22d6d3a6d3a81aa66f9f", func := "splice/splicelaw01.BitsUps", spec := "bitsUps", apart := false }
def BitsUpsSaid : Prop := bitsUpsRow.holds Try.pinned (OpenSpec.ofChange bitsUpsSpec)

/-- ITS FALSE NEIGHBOUR: 'it returns false'. Refute it at one input. -/
def bitsUpsWrong : ChangeSpec := { name := "bitsUps", fn := fun _ => fun
  | [d1, d2] => { results := [.lit (.bool false)], args := [d1, d2] }
  | _ => none }
def BitsUpsWrongFalsely : Prop := bitsUpsRow.holds Try.pinned (OpenSpec.ofChange bitsUpsWrong)

/-- 'splicelaw01.BitsBack': WHATEVER THE INPUT: true; the input reads as it did. -/
def bitsBackSpec : ChangeSpec := { name := "bitsBack", fn := fun _ => fun
  | [d1, d2, d3] => { results := [.lit (.bool true)], args := [d1, d2, d3] }
  | _ => none }
def bitsBackRow : OpenClaim := { program := "ytkolcgnembaghaa", sum := "feeaf097ac100e00fa0191de61dc714377a2f82f9e9f22d6d3a6d3a81aa66f9f", func := "splice/splicelaw01.BitsBack", spec := "bitsBack", apart := false }
def BitsBackSaid : Prop := bitsBackRow.holds Try.pinned (OpenSpec.ofChange bitsBackSpec)

/-- ITS FALSE NEIGHBOUR: 'it returns false'. Refute it at one input. -/
def bitsBackWrong : ChangeSpec := { name := "bitsBack", fn := fun _ => fun
  | [d1, d2, d3] => { results := [.lit (.bool false)], args := [d1, d2, d3] }
  | _ => none }
def BitsBackWrongFalsely : Prop := bitsBackRow.holds Try.pinned (OpenSpec.ofChange bitsBackWrong)

/-- 'splicelaw01.BitsApart': WHATEVER THE INPUT: true; the input reads as it did. -/
def bitsApartSpec : ChangeSpec := { name := "bitsApart", fn := fun _ => fun
  | [d1, d2, d3, d4] => { results := [.lit (.bool true)], args := [d1, d2, d3, d4] }
  | _ => none }
def bitsApartRow : OpenClaim := { program := "ytkolcgnembaghaa", sum := "feeaf097ac100e00fa0191de61dc714377a2f82f9e9f22d6d3a6d3a81aa66f9f", func := "splice/splicelaw01.BitsApart", spec := "bitsApart", apart := false }
def BitsApartSaid : Prop := bitsApartRow.holds Try.pinned (OpenSpec.ofChange bitsApartSpec)

/-- ITS FALSE NEIGHBOUR: 'it returns false'. Refute it at one input. -/
def bitsApartWrong : ChangeSpec := { name := "bitsApart", fn := fun _ => fun
  | [d1, d2, d3, d4] => { results := [.lit (.bool false)], args := [d1, d2, d3, d4] }
  | _ => none }
def BitsApartWrongFalsely : Prop := bitsApartRow.holds Try.pinned (OpenSpec.ofChange bitsApartWrong)

/-- 'splicelaw01.BitsNumbers': WHATEVER THE INPUT: true; the input reads as it did. -/
def bitsNumbersSpec : ChangeSpec := { name := "bitsNumbers", fn := fun _ => fun
  | [d1, d2, d3] => { results := [.lit (.bool true)], args := [d1, d2, d3] }
  | _ => none }
def bitsNumbersRow : OpenClaim := { program := "ytkolcgnembaghaa", sum := "feeaf097ac100e00fa0191de61dc714377a2f82f9e9f22d6d3a6d3a81aa66f9f", func := "splice/splicelaw01.BitsNumbers", spec := "bitsNumbers", apart := false }
def BitsNumbersSaid : Prop := bitsNumbersRow.holds Try.pinned (OpenSpec.ofChange bitsNumbersSpec)

/-- ITS FALSE NEIGHBOUR: 'it returns false'. Refute it at one input. -/
def bitsNumbersWrong : ChangeSpec := { name := "bitsNumbers", fn := fun _ => fun
  | [d1, d2, d3] => { results := [.lit (.bool false)], args := [d1, d2, d3] }
  | _ => none }
def BitsNumbersWrongFalsely : Prop := bitsNumbersRow.holds Try.pinned (OpenSpec.ofChange bitsNumbersWrong)

/-- 'splicelaw05.StoreLoads': WHATEVER THE INPUT: true; the input reads as it did. -/
def storeLoadsSpec : ChangeSpec := { name := "storeLoads", fn := fun _ => fun
  | [d1, d2, d3] => { results := [.lit (.bool true)], args := [d1, d2, d3] }
  | _ => none }
def storeLoadsRow : OpenClaim := { program := "ytkolcgnembaghaa", sum := "feeaf097ac100e00fa0191de61dc714377a2f82f9e9f22d6d3a6d3a81aa66f9f", func := "splice/splicelaw05.StoreLoads", spec := "storeLoads", apart := false }
def StoreLoadsSaid : Prop := storeLoadsRow.holds Try.pinned (OpenSpec.ofChange storeLoadsSpec)

/-- ITS FALSE NEIGHBOUR: 'it returns false'. Refute it at one input. -/
def storeLoadsWrong : ChangeSpec := { name := "storeLoads", fn := fun _ => fun
  | [d1, d2, d3] => { results := [.lit (.bool false)], args := [d1, d2, d3] }
  | _ => none }
def StoreLoadsWrongFalsely : Prop := storeLoadsRow.holds Try.pinned (OpenSpec.ofChange storeLoadsWrong)

/-- 'splicelaw05.StoreSaves': WHATEVER THE INPUT: true; the input reads as it did. -/
def storeSavesSpec : ChangeSpec := { name := "storeSaves", fn := fun _ => fun
  | [d1, d2, d3, d4] => { results := [.lit (.bool true)], args := [d1, d2, d3, d4] }
  | _ => none }
def storeSavesRow : OpenClaim := { program := "ytkolcgnembaghaa", sum := "feeaf097ac100e00fa0191de61dc714377a2f82f9e9f22d6d3a6d3a81aa66f9f", func := "splice/splicelaw05.StoreSaves", spec := "storeSaves", apart := false }
def StoreSavesSaid : Prop := storeSavesRow.holds Try.pinned (OpenSpec.ofChange storeSavesSpec)

/-- ITS FALSE NEIGHBOUR: 'it returns false'. Refute it at one input. -/
def storeSavesWrong : ChangeSpec := { name := "storeSaves", fn := fun _ => fun
  | [d1, d2, d3, d4] => { results := [.lit (.bool false)], args := [d1, d2, d3, d4] }
  | _ => none }
def StoreSavesWrongFalsely : Prop := storeSavesRow.holds Try.pinned (OpenSpec.ofChange storeSavesWrong)

/-- 'splicelaw05.StoreBack': WHATEVER THE INPUT: true; the input reads as it did. -/
def storeBackSpec : ChangeSpec := { name := "storeBack", fn := fun _ => fun
  | [d1, d2, d3, d4] => { results := [.lit (.bool true)], args := [d1, d2, d3, d4] }
  | _ => none }
def storeBackRow : OpenClaim := { program := "ytkolcgnembaghaa", sum := "feeaf097ac100e00fa0191de61dc714377a2f82f9e9f22d6d3a6d3a81aa66f9f", func := "splice/splicelaw05.StoreBack", spec := "storeBack", apart := false }
def StoreBackSaid : Prop := storeBackRow.holds Try.pinned (OpenSpec.ofChange storeBackSpec)

/-- ITS FALSE NEIGHBOUR: 'it returns false'. Refute it at one input. -/
def storeBackWrong : ChangeSpec := { name := "storeBack", fn := fun _ => fun
  | [d1, d2, d3, d4] => { results := [.lit (.bool false)], args := [d1, d2, d3, d4] }
  | _ => none }
def StoreBackWrongFalsely : Prop := storeBackRow.holds Try.pinned (OpenSpec.ofChange storeBackWrong)

/-- 'splicelaw05.StoreKeeps': WHATEVER THE INPUT: true; the input reads as it did. -/
def storeKeepsSpec : ChangeSpec := { name := "storeKeeps", fn := fun _ => fun
  | [d1, d2, d3, d4] => { results := [.lit (.bool true)], args := [d1, d2, d3, d4] }
  | _ => none }
def storeKeepsRow : OpenClaim := { program := "ytkolcgnembaghaa", sum := "feeaf097ac100e00fa0191de61dc714377a2f82f9e9f22d6d3a6d3a81aa66f9f", func := "splice/splicelaw05.StoreKeeps", spec := "storeKeeps", apart := false }
def StoreKeepsSaid : Prop := storeKeepsRow.holds Try.pinned (OpenSpec.ofChange storeKeepsSpec)

/-- ITS FALSE NEIGHBOUR: 'it returns false'. Refute it at one input. -/
def storeKeepsWrong : ChangeSpec := { name := "storeKeeps", fn := fun _ => fun
  | [d1, d2, d3, d4] => { results := [.lit (.bool false)], args := [d1, d2, d3, d4] }
  | _ => none }
def StoreKeepsWrongFalsely : Prop := storeKeepsRow.holds Try.pinned (OpenSpec.ofChange storeKeepsWrong)

/-- 'splicelaw05.StoreApart': WHATEVER THE INPUT: true; the input reads as it did. -/
def storeApartSpec : ChangeSpec := { name := "storeApart", fn := fun _ => fun
  | [d1, d2, d3, d4, d5] => { results := [.lit (.bool true)], args := [d1, d2, d3, d4, d5] }
  | _ => none }
def storeApartRow : OpenClaim := { program := "ytkolcgnembaghaa", sum := "feeaf097ac100e00fa0191de61dc714377a2f82f9e9f22d6d3a6d3a81aa66f9f", func := "splice/splicelaw05.StoreApart", spec := "storeApart", apart := false }
def StoreApartSaid : Prop := storeApartRow.holds Try.pinned (OpenSpec.ofChange storeApartSpec)

/-- ITS FALSE NEIGHBOUR: 'it returns false'. Refute it at one input. -/
def storeApartWrong : ChangeSpec := { name := "storeApart", fn := fun _ => fun
  | [d1, d2, d3, d4, d5] => { results := [.lit (.bool false)], args := [d1, d2, d3, d4, d5] }
  | _ => none }
def StoreApartWrongFalsely : Prop := storeApartRow.holds Try.pinned (OpenSpec.ofChange storeApartWrong)

/-- 'splicelaw04.AluDoes': WHATEVER THE INPUT: true; the input reads as it did. -/
def aluDoesSpec : ChangeSpec := { name := "aluDoes", fn := fun _ => fun
  | [d1, d2, d3] => { results := [.lit (.bool true)], args := [d1, d2, d3] }
  | _ => none }
def aluDoesRow : OpenClaim := { program := "ytkolcgnembaghaa", sum := "feeaf097ac100e00fa0191de61dc714377a2f82f9e9f22d6d3a6d3a81aa66f9f", func := "splice/splicelaw04.AluDoes", spec := "aluDoes", apart := false }
def AluDoesSaid : Prop := aluDoesRow.holds Try.pinned (OpenSpec.ofChange aluDoesSpec)

/-- ITS FALSE NEIGHBOUR: 'it returns false'. Refute it at one input. -/
def aluDoesWrong : ChangeSpec := { name := "aluDoes", fn := fun _ => fun
  | [d1, d2, d3] => { results := [.lit (.bool false)], args := [d1, d2, d3] }
  | _ => none }
def AluDoesWrongFalsely : Prop := aluDoesRow.holds Try.pinned (OpenSpec.ofChange aluDoesWrong)

/-- 'splicelaw04.AluTakes': WHATEVER THE INPUT: true; the input reads as it did. -/
def aluTakesSpec : ChangeSpec := { name := "aluTakes", fn := fun _ => fun
  | [d1, d2, d3] => { results := [.lit (.bool true)], args := [d1, d2, d3] }
  | _ => none }
def aluTakesRow : OpenClaim := { program := "ytkolcgnembaghaa", sum := "feeaf097ac100e00fa0191de61dc714377a2f82f9e9f22d6d3a6d3a81aa66f9f", func := "splice/splicelaw04.AluTakes", spec := "aluTakes", apart := false }
def AluTakesSaid : Prop := aluTakesRow.holds Try.pinned (OpenSpec.ofChange aluTakesSpec)

/-- ITS FALSE NEIGHBOUR: 'it returns false'. Refute it at one input. -/
def aluTakesWrong : ChangeSpec := { name := "aluTakes", fn := fun _ => fun
  | [d1, d2, d3] => { results := [.lit (.bool false)], args := [d1, d2, d3] }
  | _ => none }
def AluTakesWrongFalsely : Prop := aluTakesRow.holds Try.pinned (OpenSpec.ofChange aluTakesWrong)

/-- 'splicelaw04.AluConsts': WHATEVER THE INPUT: true; the input reads as it did. -/
def aluConstsSpec : ChangeSpec := { name := "aluConsts", fn := fun _ => fun
  | [d1, d2, d3] => { results := [.lit (.bool true)], args := [d1, d2, d3] }
  | _ => none }
def aluConstsRow : OpenClaim := { program := "ytkolcgnembaghaa", sum := "feeaf097ac100e00fa0191de61dc714377a2f82f9e9f22d6d3a6d3a81aa66f9f", func := "splice/splicelaw04.AluConsts", spec := "aluConsts", apart := false }
def AluConstsSaid : Prop := aluConstsRow.holds Try.pinned (OpenSpec.ofChange aluConstsSpec)

/-- ITS FALSE NEIGHBOUR: 'it returns false'. Refute it at one input. -/
def aluConstsWrong : ChangeSpec := { name := "aluConsts", fn := fun _ => fun
  | [d1, d2, d3] => { results := [.lit (.bool false)], args := [d1, d2, d3] }
  | _ => none }
def AluConstsWrongFalsely : Prop := aluConstsRow.holds Try.pinned (OpenSpec.ofChange aluConstsWrong)

/-- 'splicelaw04.AluSigned': WHATEVER THE INPUT: true; the input reads as it did. -/
def aluSignedSpec : ChangeSpec := { name := "aluSigned", fn := fun _ => fun
  | [d1, d2, d3] => { results := [.lit (.bool true)], args := [d1, d2, d3] }
  | _ => none }
def aluSignedRow : OpenClaim := { program := "ytkolcgnembaghaa", sum := "feeaf097ac100e00fa0191de61dc714377a2f82f9e9f22d6d3a6d3a81aa66f9f", func := "splice/splicelaw04.AluSigned", spec := "aluSigned", apart := false }
def AluSignedSaid : Prop := aluSignedRow.holds Try.pinned (OpenSpec.ofChange aluSignedSpec)

/-- ITS FALSE NEIGHBOUR: 'it returns false'. Refute it at one input. -/
def aluSignedWrong : ChangeSpec := { name := "aluSigned", fn := fun _ => fun
  | [d1, d2, d3] => { results := [.lit (.bool false)], args := [d1, d2, d3] }
  | _ => none }
def AluSignedWrongFalsely : Prop := aluSignedRow.holds Try.pinned (OpenSpec.ofChange aluSignedWrong)

/-- 'splicelaw04.AluKeeps': WHATEVER THE INPUT: true; the input reads as it did. -/
def aluKeepsSpec : ChangeSpec := { name := "aluKeeps", fn := fun _ => fun
  | [d1, d2] => { results := [.lit (.bool true)], args := [d1, d2] }
  | _ => none }
def aluKeepsRow : OpenClaim := { program := "ytkolcgnembaghaa", sum := "feeaf097ac100e00fa0191de61dc714377a2f82f9e9f22d6d3a6d3a81aa66f9f", func := "splice/splicelaw04.AluKeeps", spec := "aluKeeps", apart := false }
def AluKeepsSaid : Prop := aluKeepsRow.holds Try.pinned (OpenSpec.ofChange aluKeepsSpec)

/-- ITS FALSE NEIGHBOUR: 'it returns false'. Refute it at one input. -/
def aluKeepsWrong : ChangeSpec := { name := "aluKeeps", fn := fun _ => fun
  | [d1, d2] => { results := [.lit (.bool false)], args := [d1, d2] }
  | _ => none }
def AluKeepsWrongFalsely : Prop := aluKeepsRow.holds Try.pinned (OpenSpec.ofChange aluKeepsWrong)

/- THE SECOND FORM. 'bulk': how many values and letters a reading holds, each counted each time it is reached (what is shared counts as often as it is met; a slice's spare places count too). A statement '..UptoSaid' is the law's where the arguments, and the package variables that the reading takes, are together of bulk at most 1048576: NARROWER than '..Said'. Prove '..Said' where nothing that the law and all that it calls make is longer than what came in: it says more and counts as full. Else prove '..UptoSaid'. A law counts once. -/
mutual
def uptoBulk {H : Type} : DataW H → Nat
  | .lit (.string bytes) => bytes.length + 1
  | .lit _ => 1
  | .nil => 1
  | .ptr d => uptoBulk d + 1
  | .slice elems spare => uptoBulkAll elems + uptoBulkAll spare + 1
  | .agg parts => uptoBulkAll parts + 1
  | .iface _ d => uptoBulk d + 1
  | .map entries => uptoBulkEntries entries + 1
  | .held _ => 1
def uptoBulkAll {H : Type} : List (DataW H) → Nat
  | [] => 0
  | d :: r => uptoBulk d + uptoBulkAll r
def uptoBulkEntries {H : Type} : List (Lit × DataW H) → Nat
  | [] => 0
  | x :: r => uptoBulkEntry x + uptoBulkEntries r
def uptoBulkEntry {H : Type} : Lit × DataW H → Nat
  | (.string bytes, d) => bytes.length + uptoBulk d + 1
  | (_, d) => uptoBulk d + 1
 end
def uptoSmall : (H : Type) → List (DataW H) → Bool := fun _ ds => decide (uptoBulkAll ds ≤ 1048576)
def OpenSpec.upto (s : _root_.Go.ChangeSpec) : _root_.Go.OpenSpec := { _root_.Go.OpenSpec.ofChange s with cond := some uptoSmall }

/-- 'splicelaw01.BitsWords', WHERE WHAT IT READS IS OF BULK AT MOST 1048576: true; the input reads as it did. -/
def bitsWordsUptoRow : OpenClaim := { program := "ytkolcgnembaghaa", sum := "feeaf097ac100e00fa0191de61dc714377a2f82f9e9f22d6d3a6d3a81aa66f9f", func := "splice/splicelaw01.BitsWords", spec := "bitsWords", apart := false, narrowed := true }
def BitsWordsUptoSaid : Prop := bitsWordsUptoRow.holds Try.pinned (OpenSpec.upto bitsWordsSpec)

/-- 'splicelaw01.BitsUps', WHERE WHAT IT READS IS OF BULK AT MOST 1048576: true; the input reads as it did. -/
def bitsUpsUptoRow : OpenClaim := { program := "ytkolcgnembaghaa", sum := "feeaf097ac100e00fa0191de61dc714377a2f82f9e9f22d6d3a6d3a81aa66f9f", func := "splice/splicelaw01.BitsUps", spec := "bitsUps", apart := false, narrowed := true }
def BitsUpsUptoSaid : Prop := bitsUpsUptoRow.holds Try.pinned (OpenSpec.upto bitsUpsSpec)

/-- 'splicelaw01.BitsBack', WHERE WHAT IT READS IS OF BULK AT MOST 1048576: true; the input reads as it did. -/
def bitsBackUptoRow : OpenClaim := { program := "ytkolcgnembaghaa", sum := "feeaf097ac100e00fa0191de61dc714377a2f82f9e9f22d6d3a6d3a81aa66f9f", func := "splice/splicelaw01.BitsBack", spec := "bitsBack", apart := false, narrowed := true }
def BitsBackUptoSaid : Prop := bitsBackUptoRow.holds Try.pinned (OpenSpec.upto bitsBackSpec)

/-- 'splicelaw01.BitsApart', WHERE WHAT IT READS IS OF BULK AT MOST 1048576: true; the input reads as it did. -/
def bitsApartUptoRow : OpenClaim := { program := "ytkolcgnembaghaa", sum := "feeaf097ac100e00fa0191de61dc714377a2f82f9e9f22d6d3a6d3a81aa66f9f", func := "splice/splicelaw01.BitsApart", spec := "bitsApart", apart := false, narrowed := true }
def BitsApartUptoSaid : Prop := bitsApartUptoRow.holds Try.pinned (OpenSpec.upto bitsApartSpec)

/-- 'splicelaw01.BitsNumbers', WHERE WHAT IT READS IS OF BULK AT MOST 1048576: true; the input reads as it did. -/
def bitsNumbersUptoRow : OpenClaim := { program := "ytkolcgnembaghaa", sum := "feeaf097ac100e00fa0191de61dc714377a2f82f9e9f22d6d3a6d3a81aa66f9f", func := "splice/splicelaw01.BitsNumbers", spec := "bitsNumbers", apart := false, narrowed := true }
def BitsNumbersUptoSaid : Prop := bitsNumbersUptoRow.holds Try.pinned (OpenSpec.upto bitsNumbersSpec)

/-- 'splicelaw05.StoreLoads', WHERE WHAT IT READS IS OF BULK AT MOST 1048576: true; the input reads as it did. -/
def storeLoadsUptoRow : OpenClaim := { program := "ytkolcgnembaghaa", sum := "feeaf097ac100e00fa0191de61dc714377a2f82f9e9f22d6d3a6d3a81aa66f9f", func := "splice/splicelaw05.StoreLoads", spec := "storeLoads", apart := false, narrowed := true }
def StoreLoadsUptoSaid : Prop := storeLoadsUptoRow.holds Try.pinned (OpenSpec.upto storeLoadsSpec)

/-- 'splicelaw05.StoreSaves', WHERE WHAT IT READS IS OF BULK AT MOST 1048576: true; the input reads as it did. -/
def storeSavesUptoRow : OpenClaim := { program := "ytkolcgnembaghaa", sum := "feeaf097ac100e00fa0191de61dc714377a2f82f9e9f22d6d3a6d3a81aa66f9f", func := "splice/splicelaw05.StoreSaves", spec := "storeSaves", apart := false, narrowed := true }
def StoreSavesUptoSaid : Prop := storeSavesUptoRow.holds Try.pinned (OpenSpec.upto storeSavesSpec)

/-- 'splicelaw05.StoreBack', WHERE WHAT IT READS IS OF BULK AT MOST 1048576: true; the input reads as it did. -/
def storeBackUptoRow : OpenClaim := { program := "ytkolcgnembaghaa", sum := "feeaf097ac100e00fa0191de61dc714377a2f82f9e9f22d6d3a6d3a81aa66f9f", func := "splice/splicelaw05.StoreBack", spec := "storeBack", apart := false, narrowed := true }
def StoreBackUptoSaid : Prop := storeBackUptoRow.holds Try.pinned (OpenSpec.upto storeBackSpec)

/-- 'splicelaw05.StoreKeeps', WHERE WHAT IT READS IS OF BULK AT MOST 1048576: true; the input reads as it did. -/
def storeKeepsUptoRow : OpenClaim := { program := "ytkolcgnembaghaa", sum := "feeaf097ac100e00fa0191de61dc714377a2f82f9e9f22d6d3a6d3a81aa66f9f", func := "splice/splicelaw05.StoreKeeps", spec := "storeKeeps", apart := false, narrowed := true }
def StoreKeepsUptoSaid : Prop := storeKeepsUptoRow.holds Try.pinned (OpenSpec.upto storeKeepsSpec)

/-- 'splicelaw05.StoreApart', WHERE WHAT IT READS IS OF BULK AT MOST 1048576: true; the input reads as it did. -/
def storeApartUptoRow : OpenClaim := { program := "ytkolcgnembaghaa", sum := "feeaf097ac100e00fa0191de61dc714377a2f82f9e9f22d6d3a6d3a81aa66f9f", func := "splice/splicelaw05.StoreApart", spec := "storeApart", apart := false, narrowed := true }
def StoreApartUptoSaid : Prop := storeApartUptoRow.holds Try.pinned (OpenSpec.upto storeApartSpec)

/-- 'splicelaw04.AluDoes', WHERE WHAT IT READS IS OF BULK AT MOST 1048576: true; the input reads as it did. -/
def aluDoesUptoRow : OpenClaim := { program := "ytkolcgnembaghaa", sum := "feeaf097ac100e00fa0191de61dc714377a2f82f9e9f22d6d3a6d3a81aa66f9f", func := "splice/splicelaw04.AluDoes", spec := "aluDoes", apart := false, narrowed := true }
def AluDoesUptoSaid : Prop := aluDoesUptoRow.holds Try.pinned (OpenSpec.upto aluDoesSpec)

/-- 'splicelaw04.AluTakes', WHERE WHAT IT READS IS OF BULK AT MOST 1048576: true; the input reads as it did. -/
def aluTakesUptoRow : OpenClaim := { program := "ytkolcgnembaghaa", sum := "feeaf097ac100e00fa0191de61dc714377a2f82f9e9f22d6d3a6d3a81aa66f9f", func := "splice/splicelaw04.AluTakes", spec := "aluTakes", apart := false, narrowed := true }
def AluTakesUptoSaid : Prop := aluTakesUptoRow.holds Try.pinned (OpenSpec.upto aluTakesSpec)

/-- 'splicelaw04.AluConsts', WHERE WHAT IT READS IS OF BULK AT MOST 1048576: true; the input reads as it did. -/
def aluConstsUptoRow : OpenClaim := { program := "ytkolcgnembaghaa", sum := "feeaf097ac100e00fa0191de61dc714377a2f82f9e9f22d6d3a6d3a81aa66f9f", func := "splice/splicelaw04.AluConsts", spec := "aluConsts", apart := false, narrowed := true }
def AluConstsUptoSaid : Prop := aluConstsUptoRow.holds Try.pinned (OpenSpec.upto aluConstsSpec)

/-- 'splicelaw04.AluSigned', WHERE WHAT IT READS IS OF BULK AT MOST 1048576: true; the input reads as it did. -/
def aluSignedUptoRow : OpenClaim := { program := "ytkolcgnembaghaa", sum := "feeaf097ac100e00fa0191de61dc714377a2f82f9e9f22d6d3a6d3a81aa66f9f", func := "splice/splicelaw04.AluSigned", spec := "aluSigned", apart := false, narrowed := true }
def AluSignedUptoSaid : Prop := aluSignedUptoRow.holds Try.pinned (OpenSpec.upto aluSignedSpec)

/-- 'splicelaw04.AluKeeps', WHERE WHAT IT READS IS OF BULK AT MOST 1048576: true; the input reads as it did. -/
def aluKeepsUptoRow : OpenClaim := { program := "ytkolcgnembaghaa", sum := "feeaf097ac100e00fa0191de61dc714377a2f82f9e9f22d6d3a6d3a81aa66f9f", func := "splice/splicelaw04.AluKeeps", spec := "aluKeeps", apart := false, narrowed := true }
def AluKeepsUptoSaid : Prop := aluKeepsUptoRow.holds Try.pinned (OpenSpec.upto aluKeepsSpec)

end Rows
end Go.Proofs.Ytkolcgnembaghaa
