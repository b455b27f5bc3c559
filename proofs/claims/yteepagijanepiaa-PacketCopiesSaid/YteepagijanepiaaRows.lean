/-
  No cell of these rows narrows 'for every input' (looked for: loops, veiled, ifaces, maps, wideKeys, modest, calm, conditions, laid).
  DERIVED. THE GIVEN ROWS OF THIS SEAT. 6 by the template 'for every input the law returns true; each argument reads behind the call as it read before'; 0 by the template 'total and deterministic' (their statements: YteepagijanepiaaTotals.lean).
  GIVEN WITH THE SEED: the statements are not yours to turn. If you find one false, say at which input.
  Laid BY PROGRAM, IN A SANDBOX (cutbox-rows.mjs): the forced cells as the released guide's own fill.sh prints them over the translation 681ba708bf86c0d2… (all of the seat's roots in one cut). By AI agents, Wed Nov 11 2026. No macro, syntax, notation, axiom, sorry.
-/
import Derived.Test.YteepagijanepiaaChecked
import GoSem.Claim
import GoSem.ClaimJoined
import GoSem.ClaimMapViews
import Derived.JoinedTies
import Derived.KernelRfl
namespace Go.Proofs.Yteepagijanepiaa
/- THE CELL 'sum', in the pinned program and in every row, IS THE sha256 OF THE DUMP (.gsa) THAT YteepagijanepiaaProg.lean LOADS. Nothing in Lean hashes anything: it is a label: what it is worth is what the hold of that sum in a sandbox is worth. -/
noncomputable def Try.pinned : Pinned := { name := "yteepagijanepiaa", sum := "681ba708bf86c0d22eff331658c46d83b99a627127bac75875fe4e4285063a18", checked := Try.checked }
namespace Rows
def none {H : Type} : Left H := { results := [], args := [] }

/-- 'bitcastlaw03.PacketEncodes': WHATEVER THE INPUT: true; the input reads as it did. -/
def packetEncodesSpec : ChangeSpec := { name := "packetEncodes", fn := fun _ => fun
  | [d1, d2] => { results := [.lit (.bool true)], args := [d1, d2] }
  | _ => none }
def packetEncodesRow : OpenClaim := { program := "yteepagijanepiaa", sum := "681ba708bf86c0d22eff331658c46d83b99a627127bac75875fe4e4285063a18", func := "bitcast/bitcastlaw03.PacketEncodes", spec := "packetEncodes", apart := false }
def PacketEncodesSaid : Prop := packetEncodesRow.holds Try.pinned (OpenSpec.ofChange packetEncodesSpec)

/-- ITS FALSE NEIGHBOUR: 'it returns false'. Refute it at one input. -/
def packetEncodesWrong : ChangeSpec := { name := "packetEncodes", fn := fun _ => fun
  | [d1, d2] => { results := [.lit (.bool false)], args := [d1, d2] }
  | _ => none }
def PacketEncodesWrongFalsely : Prop := packetEncodesRow.holds Try.pinned (OpenSpec.ofChange packetEncodesWrong)

/-- 'bitcastlaw03.PacketBack': WHATEVER THE INPUT: true; the input reads as it did. -/
def packetBackSpec : ChangeSpec := { name := "packetBack", fn := fun _ => fun
  | [d] => { results := [.lit (.bool true)], args := [d] }
  | _ => none }
def packetBackRow : OpenClaim := { program := "yteepagijanepiaa", sum := "681ba708bf86c0d22eff331658c46d83b99a627127bac75875fe4e4285063a18", func := "bitcast/bitcastlaw03.PacketBack", spec := "packetBack", apart := false }
def PacketBackSaid : Prop := packetBackRow.holds Try.pinned (OpenSpec.ofChange packetBackSpec)

/-- ITS FALSE NEIGHBOUR: 'it returns false'. Refute it at one input. -/
def packetBackWrong : ChangeSpec := { name := "packetBack", fn := fun _ => fun
  | [d] => { results := [.lit (.bool false)], args := [d] }
  | _ => none }
def PacketBackWrongFalsely : Prop := packetBackRow.holds Try.pinned (OpenSpec.ofChange packetBackWrong)

/-- 'bitcastlaw03.PacketDecodes': WHATEVER THE INPUT: true; the input reads as it did. -/
def packetDecodesSpec : ChangeSpec := { name := "packetDecodes", fn := fun _ => fun
  | [d1, d2] => { results := [.lit (.bool true)], args := [d1, d2] }
  | _ => none }
def packetDecodesRow : OpenClaim := { program := "yteepagijanepiaa", sum := "681ba708bf86c0d22eff331658c46d83b99a627127bac75875fe4e4285063a18", func := "bitcast/bitcastlaw03.PacketDecodes", spec := "packetDecodes", apart := false }
def PacketDecodesSaid : Prop := packetDecodesRow.holds Try.pinned (OpenSpec.ofChange packetDecodesSpec)

/-- ITS FALSE NEIGHBOUR: 'it returns false'. Refute it at one input. -/
def packetDecodesWrong : ChangeSpec := { name := "packetDecodes", fn := fun _ => fun
  | [d1, d2] => { results := [.lit (.bool false)], args := [d1, d2] }
  | _ => none }
def PacketDecodesWrongFalsely : Prop := packetDecodesRow.holds Try.pinned (OpenSpec.ofChange packetDecodesWrong)

/-- 'bitcastlaw03.PacketDetects': WHATEVER THE INPUT: true; the input reads as it did. -/
def packetDetectsSpec : ChangeSpec := { name := "packetDetects", fn := fun _ => fun
  | [d] => { results := [.lit (.bool true)], args := [d] }
  | _ => none }
def packetDetectsRow : OpenClaim := { program := "yteepagijanepiaa", sum := "681ba708bf86c0d22eff331658c46d83b99a627127bac75875fe4e4285063a18", func := "bitcast/bitcastlaw03.PacketDetects", spec := "packetDetects", apart := false }
def PacketDetectsSaid : Prop := packetDetectsRow.holds Try.pinned (OpenSpec.ofChange packetDetectsSpec)

/-- ITS FALSE NEIGHBOUR: 'it returns false'. Refute it at one input. -/
def packetDetectsWrong : ChangeSpec := { name := "packetDetects", fn := fun _ => fun
  | [d] => { results := [.lit (.bool false)], args := [d] }
  | _ => none }
def PacketDetectsWrongFalsely : Prop := packetDetectsRow.holds Try.pinned (OpenSpec.ofChange packetDetectsWrong)

/-- 'bitcastlaw03.PacketValid': WHATEVER THE INPUT: true; the input reads as it did. -/
def packetValidSpec : ChangeSpec := { name := "packetValid", fn := fun _ => fun
  | [d1, d2] => { results := [.lit (.bool true)], args := [d1, d2] }
  | _ => none }
def packetValidRow : OpenClaim := { program := "yteepagijanepiaa", sum := "681ba708bf86c0d22eff331658c46d83b99a627127bac75875fe4e4285063a18", func := "bitcast/bitcastlaw03.PacketValid", spec := "packetValid", apart := false }
def PacketValidSaid : Prop := packetValidRow.holds Try.pinned (OpenSpec.ofChange packetValidSpec)

/-- ITS FALSE NEIGHBOUR: 'it returns false'. Refute it at one input. -/
def packetValidWrong : ChangeSpec := { name := "packetValid", fn := fun _ => fun
  | [d1, d2] => { results := [.lit (.bool false)], args := [d1, d2] }
  | _ => none }
def PacketValidWrongFalsely : Prop := packetValidRow.holds Try.pinned (OpenSpec.ofChange packetValidWrong)

/-- 'bitcastlaw03.PacketCopies': WHATEVER THE INPUT: true; the input reads as it did. -/
def packetCopiesSpec : ChangeSpec := { name := "packetCopies", fn := fun _ => fun
  | [d1, d2, d3, d4] => { results := [.lit (.bool true)], args := [d1, d2, d3, d4] }
  | _ => none }
def packetCopiesRow : OpenClaim := { program := "yteepagijanepiaa", sum := "681ba708bf86c0d22eff331658c46d83b99a627127bac75875fe4e4285063a18", func := "bitcast/bitcastlaw03.PacketCopies", spec := "packetCopies", apart := false }
def PacketCopiesSaid : Prop := packetCopiesRow.holds Try.pinned (OpenSpec.ofChange packetCopiesSpec)

/-- ITS FALSE NEIGHBOUR: 'it returns false'. Refute it at one input. -/
def packetCopiesWrong : ChangeSpec := { name := "packetCopies", fn := fun _ => fun
  | [d1, d2, d3, d4] => { results := [.lit (.bool false)], args := [d1, d2, d3, d4] }
  | _ => none }
def PacketCopiesWrongFalsely : Prop := packetCopiesRow.holds Try.pinned (OpenSpec.ofChange packetCopiesWrong)

/- THE SECOND FORM. 'bulk': how many values and letters a reading holds, each counted each time it is reached (what is shared counts as often as it is met; a slice's spare places count too). A statement '..UptoSaid' is the law's where the arguments, and the package variables that the reading takes, are together of bulk at most 1048576: NARROWER than '..Said'. Prove '..Said' where nothing that the law and all that it calls make is longer than what came in: it says more and counts as full. Else prove '..UptoSaid'. A law counts once. -/
mutual
def uptoBulk {H : Type} : DataW H → Nat
  | .lit (.string bytes) => bytes.length + 1
  | .lit _ => 1
  | .nil => 1
  | .ptr d => uptoBulk d + 1
  | .slice elems spare => uptoBulkAll elems + uptoBulkAll spare + 1
  | .agg parts => uptoBulkAll parts + 1
  | .iface _ d => uptoBulk d + 1
  | .map entries => uptoBulkEntries entries + 1
  | .held _ => 1
def uptoBulkAll {H : Type} : List (DataW H) → Nat
  | [] => 0
  | d :: r => uptoBulk d + uptoBulkAll r
def uptoBulkEntries {H : Type} : List (Lit × DataW H) → Nat
  | [] => 0
  | x :: r => uptoBulkEntry x + uptoBulkEntries r
def uptoBulkEntry {H : Type} : Lit × DataW H → Nat
  | (.string bytes, d) => bytes.length + uptoBulk d + 1
  | (_, d) => uptoBulk d + 1
 end
def uptoSmall : (H : Type) → List (DataW H) → Bool := fun _ ds => decide (uptoBulkAll ds ≤ 1048576)
def OpenSpec.upto (s : _root_.Go.ChangeSpec) : _root_.Go.OpenSpec := { _root_.Go.OpenSpec.ofChange s with cond := some uptoSmall }

/-- 'bitcastlaw03.PacketEncodes', WHERE WHAT IT READS IS OF BULK AT MOST 1048576: true; the input reads as it did. -/
def packetEncodesUptoRow : OpenClaim := { program := "yteepagijanepiaa", sum := "681ba708bf86c0d22eff331658c46d83b99a627127bac75875fe4e4285063a18", func := "bitcast/bitcastlaw03.PacketEncodes", spec := "packetEncodes", apart := false, narrowed := true }
def PacketEncodesUptoSaid : Prop := packetEncodesUptoRow.holds Try.pinned (OpenSpec.upto packetEncodesSpec)

/-- 'bitcastlaw03.PacketBack', WHERE WHAT IT READS IS OF BULK AT MOST 1048576: true; the input reads as it did. -/
def packetBackUptoRow : OpenClaim := { program := "yteepagijanepiaa", sum := "681ba708bf86c0d22eff331658c46d83b99a627127bac75875fe4e4285063a18", func := "bitcast/bitcastlaw03.PacketBack", spec := "packetBack", apart := false, narrowed := true }
def PacketBackUptoSaid : Prop := packetBackUptoRow.holds Try.pinned (OpenSpec.upto packetBackSpec)

/-- 'bitcastlaw03.PacketDecodes', WHERE WHAT IT READS IS OF BULK AT MOST 1048576: true; the input reads as it did. -/
def packetDecodesUptoRow : OpenClaim := { program := "yteepagijanepiaa", sum := "681ba708bf86c0d22eff331658c46d83b99a627127bac75875fe4e4285063a18", func := "bitcast/bitcastlaw03.PacketDecodes", spec := "packetDecodes", apart := false, narrowed := true }
def PacketDecodesUptoSaid : Prop := packetDecodesUptoRow.holds Try.pinned (OpenSpec.upto packetDecodesSpec)

/-- 'bitcastlaw03.PacketDetects', WHERE WHAT IT READS IS OF BULK AT MOST 1048576: true; the input reads as it did. -/
def packetDetectsUptoRow : OpenClaim := { program := "yteepagijanepiaa", sum := "681ba708bf86c0d22eff331658c46d83b99a627127bac75875fe4e4285063a18", func := "bitcast/bitcastlaw03.PacketDetects", spec := "packetDetects", apart := false, narrowed := true }
def PacketDetectsUptoSaid : Prop := packetDetectsUptoRow.holds Try.pinned (OpenSpec.upto packetDetectsSpec)

/-- 'bitcastlaw03.PacketValid', WHERE WHAT IT READS IS OF BULK AT MOST 1048576: true; the input reads as it did. -/
def packetValidUptoRow : OpenClaim := { program := "yteepagijanepiaa", sum := "681ba708bf86c0d22eff331658c46d83b99a627127bac75875fe4e4285063a18", func := "bitcast/bitcastlaw03.PacketValid", spec := "packetValid", apart := false, narrowed := true }
def PacketValidUptoSaid : Prop := packetValidUptoRow.holds Try.pinned (OpenSpec.upto packetValidSpec)

/-- 'bitcastlaw03.PacketCopies', WHERE WHAT IT READS IS OF BULK AT MOST 1048576: true; the input reads as it did. -/
def packetCopiesUptoRow : OpenClaim := { program := "yteepagijanepiaa", sum := "681ba708bf86c0d22eff331658c46d83b99a627127bac75875fe4e4285063a18", func := "bitcast/bitcastlaw03.PacketCopies", spec := "packetCopies", apart := false, narrowed := true }
def PacketCopiesUptoSaid : Prop := packetCopiesUptoRow.holds Try.pinned (OpenSpec.upto packetCopiesSpec)

end Rows
end Go.Proofs.Yteepagijanepiaa
