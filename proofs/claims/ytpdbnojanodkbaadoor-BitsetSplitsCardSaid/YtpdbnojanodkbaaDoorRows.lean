/-
  NARROWER THAN 'FOR EVERY INPUT', by the rows' own cells (each row's printed sentence says how): BitsetLengths: laid · BitsetCounts: laid · BitsetSplits: laid · BitsetRanks: laid · BitsetSpreads: laid · BitsetTexts: laid · BitsetBytes: laid · BitsetOf: laid.
  DERIVED. THE GIVEN ROWS OF THIS SEAT. 8 by the template 'for every input the law returns true; each argument reads behind the call as it read before'; 0 by the template 'total and deterministic' (their statements: YtpdbnojanodkbaaDoorTotals.lean).
  GIVEN WITH THE SEED: the statements are not yours to turn. If you find one false, say at which input.
  Laid BY PROGRAM, IN A SANDBOX (cutbox-rows.mjs): the forced cells as the released guide's own fill.sh prints them over the translation 926a15e7623e24c8… (all of the seat's roots in one cut). By AI agents, Wed Nov 11 2026. No macro, syntax, notation, axiom, sorry.
-/
import Derived.Test.YtpdbnojanodkbaaDoorChecked
import GoSem.Claim
import GoSem.ClaimJoined
import GoSem.ClaimMapViews
import Derived.JoinedTies
import Derived.KernelRfl
namespace Go.Proofs.YtpdbnojanodkbaaDoor
/- THE CELL 'sum', in the pinned program and in every row, IS THE sha256 OF THE DUMP (.gsa) THAT YtpdbnojanodkbaaDoorProg.lean LOADS. Nothing in Lean hashes anything: it is a label: what it is worth is what the hold of that sum in a sandbox is worth. -/
noncomputable def Tryd.pinned : Pinned := { name := "ytpdbnojanodkbaadoor", sum := "926a15e7623e24c86e7dbae1879dde5ebdbf9f6bcf8729eec3b3d249e6f30db1", checked := Tryd.checked }
namespace Rows
def none {H : Type} : Left H := { results := [], args := [] }

/- WHAT THE LISTED PACKAGE-LEVEL VARIABLES READ AS WHEN THE CALL BEGINS. Each datum BY PROGRAM (the guide's laid-datum.mjs) off the statement by which the dump's own 'gosem.cut.vars' lays the variable. In a bare row this is a premise. The card (YtpdbnojanodkbaaDoorCards.lean) ties it to the program's text. -/
def laid_math_bits_deBruijn64tab {H : Type} : DataW H := .agg [.lit (.int .u8 0), .lit (.int .u8 1), .lit (.int .u8 56), .lit (.int .u8 2), .lit (.int .u8 57), .lit (.int .u8 49), .lit (.int .u8 28), .lit (.int .u8 3), .lit (.int .u8 61), .lit (.int .u8 58), .lit (.int .u8 42), .lit (.int .u8 50), .lit (.int .u8 38), .lit (.int .u8 29), .lit (.int .u8 17), .lit (.int .u8 4), .lit (.int .u8 62), .lit (.int .u8 47), .lit (.int .u8 59), .lit (.int .u8 36), .lit (.int .u8 45), .lit (.int .u8 43), .lit (.int .u8 51), .lit (.int .u8 22), .lit (.int .u8 53), .lit (.int .u8 39), .lit (.int .u8 33), .lit (.int .u8 30), .lit (.int .u8 24), .lit (.int .u8 18), .lit (.int .u8 12), .lit (.int .u8 5), .lit (.int .u8 63), .lit (.int .u8 55), .lit (.int .u8 48), .lit (.int .u8 27), .lit (.int .u8 60), .lit (.int .u8 41), .lit (.int .u8 37), .lit (.int .u8 16), .lit (.int .u8 46), .lit (.int .u8 35), .lit (.int .u8 44), .lit (.int .u8 21), .lit (.int .u8 52), .lit (.int .u8 32), .lit (.int .u8 23), .lit (.int .u8 11), .lit (.int .u8 54), .lit (.int .u8 26), .lit (.int .u8 40), .lit (.int .u8 15), .lit (.int .u8 34), .lit (.int .u8 20), .lit (.int .u8 31), .lit (.int .u8 10), .lit (.int .u8 25), .lit (.int .u8 14), .lit (.int .u8 19), .lit (.int .u8 9), .lit (.int .u8 13), .lit (.int .u8 8), .lit (.int .u8 7), .lit (.int .u8 6)]

/-- 'bitcastlaw01.BitsetLengths': WHATEVER THE INPUT: true; the input reads as it did. -/
def bitsetLengthsSpec : ChangeSpec := { name := "bitsetLengths", fn := fun _ => fun
  | [d1, d2, d3] => { results := [.lit (.bool true)], args := [d1, d2, d3] }
  | _ => none }
def bitsetLengthsRow : OpenClaim := { program := "ytpdbnojanodkbaadoor", sum := "926a15e7623e24c86e7dbae1879dde5ebdbf9f6bcf8729eec3b3d249e6f30db1", func := "bitcast/bitcastlaw01.BitsetLengths", spec := "bitsetLengths", inPlace := ["internal/abi.NoEscape"], named := ["math/bits.deBruijn64tab"], apart := false, laid := [("math/bits.deBruijn64tab", laid_math_bits_deBruijn64tab)] }
def BitsetLengthsSaid : Prop := bitsetLengthsRow.holds Tryd.pinned (OpenSpec.ofChange bitsetLengthsSpec)

/-- ITS FALSE NEIGHBOUR: 'it returns false'. Refute it at one input. -/
def bitsetLengthsWrong : ChangeSpec := { name := "bitsetLengths", fn := fun _ => fun
  | [d1, d2, d3] => { results := [.lit (.bool false)], args := [d1, d2, d3] }
  | _ => none }
def BitsetLengthsWrongFalsely : Prop := bitsetLengthsRow.holds Tryd.pinned (OpenSpec.ofChange bitsetLengthsWrong)

/-- 'bitcastlaw01.BitsetCounts': WHATEVER THE INPUT: true; the input reads as it did. -/
def bitsetCountsSpec : ChangeSpec := { name := "bitsetCounts", fn := fun _ => fun
  | [d1, d2, d3] => { results := [.lit (.bool true)], args := [d1, d2, d3] }
  | _ => none }
def bitsetCountsRow : OpenClaim := { program := "ytpdbnojanodkbaadoor", sum := "926a15e7623e24c86e7dbae1879dde5ebdbf9f6bcf8729eec3b3d249e6f30db1", func := "bitcast/bitcastlaw01.BitsetCounts", spec := "bitsetCounts", inPlace := ["internal/abi.NoEscape"], named := ["math/bits.deBruijn64tab"], apart := false, laid := [("math/bits.deBruijn64tab", laid_math_bits_deBruijn64tab)] }
def BitsetCountsSaid : Prop := bitsetCountsRow.holds Tryd.pinned (OpenSpec.ofChange bitsetCountsSpec)

/-- ITS FALSE NEIGHBOUR: 'it returns false'. Refute it at one input. -/
def bitsetCountsWrong : ChangeSpec := { name := "bitsetCounts", fn := fun _ => fun
  | [d1, d2, d3] => { results := [.lit (.bool false)], args := [d1, d2, d3] }
  | _ => none }
def BitsetCountsWrongFalsely : Prop := bitsetCountsRow.holds Tryd.pinned (OpenSpec.ofChange bitsetCountsWrong)

/-- 'bitcastlaw01.BitsetSplits': WHATEVER THE INPUT: true; the input reads as it did. -/
def bitsetSplitsSpec : ChangeSpec := { name := "bitsetSplits", fn := fun _ => fun
  | [d1, d2, d3] => { results := [.lit (.bool true)], args := [d1, d2, d3] }
  | _ => none }
def bitsetSplitsRow : OpenClaim := { program := "ytpdbnojanodkbaadoor", sum := "926a15e7623e24c86e7dbae1879dde5ebdbf9f6bcf8729eec3b3d249e6f30db1", func := "bitcast/bitcastlaw01.BitsetSplits", spec := "bitsetSplits", inPlace := ["internal/abi.NoEscape"], named := ["math/bits.deBruijn64tab"], apart := false, laid := [("math/bits.deBruijn64tab", laid_math_bits_deBruijn64tab)] }
def BitsetSplitsSaid : Prop := bitsetSplitsRow.holds Tryd.pinned (OpenSpec.ofChange bitsetSplitsSpec)

/-- ITS FALSE NEIGHBOUR: 'it returns false'. Refute it at one input. -/
def bitsetSplitsWrong : ChangeSpec := { name := "bitsetSplits", fn := fun _ => fun
  | [d1, d2, d3] => { results := [.lit (.bool false)], args := [d1, d2, d3] }
  | _ => none }
def BitsetSplitsWrongFalsely : Prop := bitsetSplitsRow.holds Tryd.pinned (OpenSpec.ofChange bitsetSplitsWrong)

/-- 'bitcastlaw01.BitsetRanks': WHATEVER THE INPUT: true; the input reads as it did. -/
def bitsetRanksSpec : ChangeSpec := { name := "bitsetRanks", fn := fun _ => fun
  | [d] => { results := [.lit (.bool true)], args := [d] }
  | _ => none }
def bitsetRanksRow : OpenClaim := { program := "ytpdbnojanodkbaadoor", sum := "926a15e7623e24c86e7dbae1879dde5ebdbf9f6bcf8729eec3b3d249e6f30db1", func := "bitcast/bitcastlaw01.BitsetRanks", spec := "bitsetRanks", inPlace := ["internal/abi.NoEscape"], named := ["math/bits.deBruijn64tab"], apart := false, laid := [("math/bits.deBruijn64tab", laid_math_bits_deBruijn64tab)] }
def BitsetRanksSaid : Prop := bitsetRanksRow.holds Tryd.pinned (OpenSpec.ofChange bitsetRanksSpec)

/-- ITS FALSE NEIGHBOUR: 'it returns false'. Refute it at one input. -/
def bitsetRanksWrong : ChangeSpec := { name := "bitsetRanks", fn := fun _ => fun
  | [d] => { results := [.lit (.bool false)], args := [d] }
  | _ => none }
def BitsetRanksWrongFalsely : Prop := bitsetRanksRow.holds Tryd.pinned (OpenSpec.ofChange bitsetRanksWrong)

/-- 'bitcastlaw01.BitsetSpreads': WHATEVER THE INPUT: true; the input reads as it did. -/
def bitsetSpreadsSpec : ChangeSpec := { name := "bitsetSpreads", fn := fun _ => fun
  | [d1, d2, d3] => { results := [.lit (.bool true)], args := [d1, d2, d3] }
  | _ => none }
def bitsetSpreadsRow : OpenClaim := { program := "ytpdbnojanodkbaadoor", sum := "926a15e7623e24c86e7dbae1879dde5ebdbf9f6bcf8729eec3b3d249e6f30db1", func := "bitcast/bitcastlaw01.BitsetSpreads", spec := "bitsetSpreads", inPlace := ["internal/abi.NoEscape"], named := ["math/bits.deBruijn64tab"], apart := false, laid := [("math/bits.deBruijn64tab", laid_math_bits_deBruijn64tab)] }
def BitsetSpreadsSaid : Prop := bitsetSpreadsRow.holds Tryd.pinned (OpenSpec.ofChange bitsetSpreadsSpec)

/-- ITS FALSE NEIGHBOUR: 'it returns false'. Refute it at one input. -/
def bitsetSpreadsWrong : ChangeSpec := { name := "bitsetSpreads", fn := fun _ => fun
  | [d1, d2, d3] => { results := [.lit (.bool false)], args := [d1, d2, d3] }
  | _ => none }
def BitsetSpreadsWrongFalsely : Prop := bitsetSpreadsRow.holds Tryd.pinned (OpenSpec.ofChange bitsetSpreadsWrong)

/-- 'bitcastlaw01.BitsetTexts': WHATEVER THE INPUT: true; the input reads as it did. -/
def bitsetTextsSpec : ChangeSpec := { name := "bitsetTexts", fn := fun _ => fun
  | [d1, d2, d3, d4] => { results := [.lit (.bool true)], args := [d1, d2, d3, d4] }
  | _ => none }
def bitsetTextsRow : OpenClaim := { program := "ytpdbnojanodkbaadoor", sum := "926a15e7623e24c86e7dbae1879dde5ebdbf9f6bcf8729eec3b3d249e6f30db1", func := "bitcast/bitcastlaw01.BitsetTexts", spec := "bitsetTexts", inPlace := ["internal/abi.NoEscape"], named := ["math/bits.deBruijn64tab"], apart := false, laid := [("math/bits.deBruijn64tab", laid_math_bits_deBruijn64tab)] }
def BitsetTextsSaid : Prop := bitsetTextsRow.holds Tryd.pinned (OpenSpec.ofChange bitsetTextsSpec)

/-- ITS FALSE NEIGHBOUR: 'it returns false'. Refute it at one input. -/
def bitsetTextsWrong : ChangeSpec := { name := "bitsetTexts", fn := fun _ => fun
  | [d1, d2, d3, d4] => { results := [.lit (.bool false)], args := [d1, d2, d3, d4] }
  | _ => none }
def BitsetTextsWrongFalsely : Prop := bitsetTextsRow.holds Tryd.pinned (OpenSpec.ofChange bitsetTextsWrong)

/-- 'bitcastlaw01.BitsetBytes': WHATEVER THE INPUT: true; the input reads as it did. -/
def bitsetBytesSpec : ChangeSpec := { name := "bitsetBytes", fn := fun _ => fun
  | [d1, d2, d3, d4] => { results := [.lit (.bool true)], args := [d1, d2, d3, d4] }
  | _ => none }
def bitsetBytesRow : OpenClaim := { program := "ytpdbnojanodkbaadoor", sum := "926a15e7623e24c86e7dbae1879dde5ebdbf9f6bcf8729eec3b3d249e6f30db1", func := "bitcast/bitcastlaw01.BitsetBytes", spec := "bitsetBytes", inPlace := ["internal/abi.NoEscape"], named := ["math/bits.deBruijn64tab"], apart := false, laid := [("math/bits.deBruijn64tab", laid_math_bits_deBruijn64tab)] }
def BitsetBytesSaid : Prop := bitsetBytesRow.holds Tryd.pinned (OpenSpec.ofChange bitsetBytesSpec)

/-- ITS FALSE NEIGHBOUR: 'it returns false'. Refute it at one input. -/
def bitsetBytesWrong : ChangeSpec := { name := "bitsetBytes", fn := fun _ => fun
  | [d1, d2, d3, d4] => { results := [.lit (.bool false)], args := [d1, d2, d3, d4] }
  | _ => none }
def BitsetBytesWrongFalsely : Prop := bitsetBytesRow.holds Tryd.pinned (OpenSpec.ofChange bitsetBytesWrong)

/-- 'bitcastlaw01.BitsetOf': WHATEVER THE INPUT: true; the input reads as it did. -/
def bitsetOfSpec : ChangeSpec := { name := "bitsetOf", fn := fun _ => fun
  | [d1, d2, d3] => { results := [.lit (.bool true)], args := [d1, d2, d3] }
  | _ => none }
def bitsetOfRow : OpenClaim := { program := "ytpdbnojanodkbaadoor", sum := "926a15e7623e24c86e7dbae1879dde5ebdbf9f6bcf8729eec3b3d249e6f30db1", func := "bitcast/bitcastlaw01.BitsetOf", spec := "bitsetOf", inPlace := ["internal/abi.NoEscape"], unfollowed := true, recurses := true, named := ["math/bits.deBruijn64tab"], apart := false, laid := [("math/bits.deBruijn64tab", laid_math_bits_deBruijn64tab)] }
def BitsetOfSaid : Prop := bitsetOfRow.holds Tryd.pinned (OpenSpec.ofChange bitsetOfSpec)

/-- ITS FALSE NEIGHBOUR: 'it returns false'. Refute it at one input. -/
def bitsetOfWrong : ChangeSpec := { name := "bitsetOf", fn := fun _ => fun
  | [d1, d2, d3] => { results := [.lit (.bool false)], args := [d1, d2, d3] }
  | _ => none }
def BitsetOfWrongFalsely : Prop := bitsetOfRow.holds Tryd.pinned (OpenSpec.ofChange bitsetOfWrong)

/- THE SECOND FORM. 'bulk': how many values and letters a reading holds, each counted each time it is reached (what is shared counts as often as it is met; a slice's spare places count too). A statement '..UptoSaid' is the law's where the arguments, and the package variables that the reading takes, are together of bulk at most 1048576: NARROWER than '..Said'. Prove '..Said' where nothing that the law and all that it calls make is longer than what came in: it says more and counts as full. Else prove '..UptoSaid'. A law counts once. -/
mutual
def uptoBulk {H : Type} : DataW H → Nat
  | .lit (.string bytes) => bytes.length + 1
  | .lit _ => 1
  | .nil => 1
  | .ptr d => uptoBulk d + 1
  | .slice elems spare => uptoBulkAll elems + uptoBulkAll spare + 1
  | .agg parts => uptoBulkAll parts + 1
  | .iface _ d => uptoBulk d + 1
  | .map entries => uptoBulkEntries entries + 1
  | .held _ => 1
def uptoBulkAll {H : Type} : List (DataW H) → Nat
  | [] => 0
  | d :: r => uptoBulk d + uptoBulkAll r
def uptoBulkEntries {H : Type} : List (Lit × DataW H) → Nat
  | [] => 0
  | x :: r => uptoBulkEntry x + uptoBulkEntries r
def uptoBulkEntry {H : Type} : Lit × DataW H → Nat
  | (.string bytes, d) => bytes.length + uptoBulk d + 1
  | (_, d) => uptoBulk d + 1
 end
def uptoSmall : (H : Type) → List (DataW H) → Bool := fun _ ds => decide (uptoBulkAll ds ≤ 1048576)
def OpenSpec.upto (s : _root_.Go.ChangeSpec) : _root_.Go.OpenSpec := { _root_.Go.OpenSpec.ofChange s with cond := some uptoSmall }

/-- 'bitcastlaw01.BitsetLengths', WHERE WHAT IT READS IS OF BULK AT MOST 1048576: true; the input reads as it did. -/
def bitsetLengthsUptoRow : OpenClaim := { program := "ytpdbnojanodkbaadoor", sum := "926a15e7623e24c86e7dbae1879dde5ebdbf9f6bcf8729eec3b3d249e6f30db1", func := "bitcast/bitcastlaw01.BitsetLengths", spec := "bitsetLengths", inPlace := ["internal/abi.NoEscape"], named := ["math/bits.deBruijn64tab"], apart := false, laid := [("math/bits.deBruijn64tab", laid_math_bits_deBruijn64tab)], narrowed := true }
def BitsetLengthsUptoSaid : Prop := bitsetLengthsUptoRow.holds Tryd.pinned (OpenSpec.upto bitsetLengthsSpec)

/-- 'bitcastlaw01.BitsetCounts', WHERE WHAT IT READS IS OF BULK AT MOST 1048576: true; the input reads as it did. -/
def bitsetCountsUptoRow : OpenClaim := { program := "ytpdbnojanodkbaadoor", sum := "926a15e7623e24c86e7dbae1879dde5ebdbf9f6bcf8729eec3b3d249e6f30db1", func := "bitcast/bitcastlaw01.BitsetCounts", spec := "bitsetCounts", inPlace := ["internal/abi.NoEscape"], named := ["math/bits.deBruijn64tab"], apart := false, laid := [("math/bits.deBruijn64tab", laid_math_bits_deBruijn64tab)], narrowed := true }
def BitsetCountsUptoSaid : Prop := bitsetCountsUptoRow.holds Tryd.pinned (OpenSpec.upto bitsetCountsSpec)

/-- 'bitcastlaw01.BitsetSplits', WHERE WHAT IT READS IS OF BULK AT MOST 1048576: true; the input reads as it did. -/
def bitsetSplitsUptoRow : OpenClaim := { program := "ytpdbnojanodkbaadoor", sum := "926a15e7623e24c86e7dbae1879dde5ebdbf9f6bcf8729eec3b3d249e6f30db1", func := "bitcast/bitcastlaw01.BitsetSplits", spec := "bitsetSplits", inPlace := ["internal/abi.NoEscape"], named := ["math/bits.deBruijn64tab"], apart := false, laid := [("math/bits.deBruijn64tab", laid_math_bits_deBruijn64tab)], narrowed := true }
def BitsetSplitsUptoSaid : Prop := bitsetSplitsUptoRow.holds Tryd.pinned (OpenSpec.upto bitsetSplitsSpec)

/-- 'bitcastlaw01.BitsetRanks', WHERE WHAT IT READS IS OF BULK AT MOST 1048576: true; the input reads as it did. -/
def bitsetRanksUptoRow : OpenClaim := { program := "ytpdbnojanodkbaadoor", sum := "926a15e7623e24c86e7dbae1879dde5ebdbf9f6bcf8729eec3b3d249e6f30db1", func := "bitcast/bitcastlaw01.BitsetRanks", spec := "bitsetRanks", inPlace := ["internal/abi.NoEscape"], named := ["math/bits.deBruijn64tab"], apart := false, laid := [("math/bits.deBruijn64tab", laid_math_bits_deBruijn64tab)], narrowed := true }
def BitsetRanksUptoSaid : Prop := bitsetRanksUptoRow.holds Tryd.pinned (OpenSpec.upto bitsetRanksSpec)

/-- 'bitcastlaw01.BitsetSpreads', WHERE WHAT IT READS IS OF BULK AT MOST 1048576: true; the input reads as it did. -/
def bitsetSpreadsUptoRow : OpenClaim := { program := "ytpdbnojanodkbaadoor", sum := "926a15e7623e24c86e7dbae1879dde5ebdbf9f6bcf8729eec3b3d249e6f30db1", func := "bitcast/bitcastlaw01.BitsetSpreads", spec := "bitsetSpreads", inPlace := ["internal/abi.NoEscape"], named := ["math/bits.deBruijn64tab"], apart := false, laid := [("math/bits.deBruijn64tab", laid_math_bits_deBruijn64tab)], narrowed := true }
def BitsetSpreadsUptoSaid : Prop := bitsetSpreadsUptoRow.holds Tryd.pinned (OpenSpec.upto bitsetSpreadsSpec)

/-- 'bitcastlaw01.BitsetTexts', WHERE WHAT IT READS IS OF BULK AT MOST 1048576: true; the input reads as it did. -/
def bitsetTextsUptoRow : OpenClaim := { program := "ytpdbnojanodkbaadoor", sum := "926a15e7623e24c86e7dbae1879dde5ebdbf9f6bcf8729eec3b3d249e6f30db1", func := "bitcast/bitcastlaw01.BitsetTexts", spec := "bitsetTexts", inPlace := ["internal/abi.NoEscape"], named := ["math/bits.deBruijn64tab"], apart := false, laid := [("math/bits.deBruijn64tab", laid_math_bits_deBruijn64tab)], narrowed := true }
def BitsetTextsUptoSaid : Prop := bitsetTextsUptoRow.holds Tryd.pinned (OpenSpec.upto bitsetTextsSpec)

/-- 'bitcastlaw01.BitsetBytes', WHERE WHAT IT READS IS OF BULK AT MOST 1048576: true; the input reads as it did. -/
def bitsetBytesUptoRow : OpenClaim := { program := "ytpdbnojanodkbaadoor", sum := "926a15e7623e24c86e7dbae1879dde5ebdbf9f6bcf8729eec3b3d249e6f30db1", func := "bitcast/bitcastlaw01.BitsetBytes", spec := "bitsetBytes", inPlace := ["internal/abi.NoEscape"], named := ["math/bits.deBruijn64tab"], apart := false, laid := [("math/bits.deBruijn64tab", laid_math_bits_deBruijn64tab)], narrowed := true }
def BitsetBytesUptoSaid : Prop := bitsetBytesUptoRow.holds Tryd.pinned (OpenSpec.upto bitsetBytesSpec)

/-- 'bitcastlaw01.BitsetOf', WHERE WHAT IT READS IS OF BULK AT MOST 1048576: true; the input reads as it did. -/
def bitsetOfUptoRow : OpenClaim := { program := "ytpdbnojanodkbaadoor", sum := "926a15e7623e24c86e7dbae1879dde5ebdbf9f6bcf8729eec3b3d249e6f30db1", func := "bitcast/bitcastlaw01.BitsetOf", spec := "bitsetOf", inPlace := ["internal/abi.NoEscape"], unfollowed := true, recurses := true, named := ["math/bits.deBruijn64tab"], apart := false, laid := [("math/bits.deBruijn64tab", laid_math_bits_deBruijn64tab)], narrowed := true }
def BitsetOfUptoSaid : Prop := bitsetOfUptoRow.holds Tryd.pinned (OpenSpec.upto bitsetOfSpec)

end Rows
end Go.Proofs.YtpdbnojanodkbaaDoor
