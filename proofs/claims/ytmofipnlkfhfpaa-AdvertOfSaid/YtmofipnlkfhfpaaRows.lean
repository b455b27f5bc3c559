/-
  No cell of these rows narrows 'for every input' (looked for: loops, veiled, ifaces, maps, wideKeys, modest, calm, conditions, laid).
  DERIVED. THE GIVEN ROWS OF THIS SEAT. 7 by the template 'for every input the law returns true; each argument reads behind the call as it read before'; 0 by the template 'total and deterministic' (their statements: YtmofipnlkfhfpaaTotals.lean).
  GIVEN WITH THE SEED: the statements are not yours to turn. If you find one false, say at which input.
  Laid BY PROGRAM, IN A SANDBOX (cutbox-rows.mjs): the forced cells as the released guide's own fill.sh prints them over the translation 8e66120814e6662b… (all of the seat's roots in one cut). By AI agents, Wed Nov 11 2026. No macro, syntax, notation, axiom, sorry.
-/
import Derived.Test.YtmofipnlkfhfpaaChecked
import GoSem.Claim
import GoSem.ClaimJoined
import GoSem.ClaimMapViews
import Derived.JoinedTies
import Derived.KernelRfl
namespace Go.Proofs.Ytmofipnlkfhfpaa
/- THE CELL 'sum', in the pinned program and in every row, IS THE sha256 OF THE DUMP (.gsa) THAT YtmofipnlkfhfpaaProg.lean LOADS. Nothing in Lean hashes anything: it is a label: what it is worth is what the hold of that sum in a sandbox is worth. -/
noncomputable def Try.pinned : Pinned := { name := "ytmofipnlkfhfpaa", sum := "8e66120814e6662bc60a5b2d0e891ee3965f94c962bc09602f2c6e11a85ea473", checked := Try.checked }
namespace Rows
def none {H : Type} : Left H := { results := [], args := [] }

/-- 'bitcastlaw07.AdvertEncodes': WHATEVER THE INPUT: true; the input reads as it did. -/
def advertEncodesSpec : ChangeSpec := { name := "advertEncodes", fn := fun _ => fun
  | [d1, d2] => { results := [.lit (.bool true)], args := [d1, d2] }
  | _ => none }
def advertEncodesRow : OpenClaim := { program := "ytmofipnlkfhfpaa", sum := "8e66120814e6662bc60a5b2d0e891ee3965f94c962bc09602f2c6e11a85ea473", func := "bitcast/bitcastlaw07.AdvertEncodes", spec := "advertEncodes", inPlace := ["internal/bytealg.Compare"], apart := false }
def AdvertEncodesSaid : Prop := advertEncodesRow.holds Try.pinned (OpenSpec.ofChange advertEncodesSpec)

/-- ITS FALSE NEIGHBOUR: 'it returns false'. Refute it at one input. -/
def advertEncodesWrong : ChangeSpec := { name := "advertEncodes", fn := fun _ => fun
  | [d1, d2] => { results := [.lit (.bool false)], args := [d1, d2] }
  | _ => none }
def AdvertEncodesWrongFalsely : Prop := advertEncodesRow.holds Try.pinned (OpenSpec.ofChange advertEncodesWrong)

/-- 'bitcastlaw07.AdvertDecodes': WHATEVER THE INPUT: true; the input reads as it did. -/
def advertDecodesSpec : ChangeSpec := { name := "advertDecodes", fn := fun _ => fun
  | [d1, d2] => { results := [.lit (.bool true)], args := [d1, d2] }
  | _ => none }
def advertDecodesRow : OpenClaim := { program := "ytmofipnlkfhfpaa", sum := "8e66120814e6662bc60a5b2d0e891ee3965f94c962bc09602f2c6e11a85ea473", func := "bitcast/bitcastlaw07.AdvertDecodes", spec := "advertDecodes", inPlace := ["internal/bytealg.Compare"], apart := false }
def AdvertDecodesSaid : Prop := advertDecodesRow.holds Try.pinned (OpenSpec.ofChange advertDecodesSpec)

/-- ITS FALSE NEIGHBOUR: 'it returns false'. Refute it at one input. -/
def advertDecodesWrong : ChangeSpec := { name := "advertDecodes", fn := fun _ => fun
  | [d1, d2] => { results := [.lit (.bool false)], args := [d1, d2] }
  | _ => none }
def AdvertDecodesWrongFalsely : Prop := advertDecodesRow.holds Try.pinned (OpenSpec.ofChange advertDecodesWrong)

/-- 'bitcastlaw07.AdvertForged': WHATEVER THE INPUT: true; the input reads as it did. -/
def advertForgedSpec : ChangeSpec := { name := "advertForged", fn := fun _ => fun
  | [d] => { results := [.lit (.bool true)], args := [d] }
  | _ => none }
def advertForgedRow : OpenClaim := { program := "ytmofipnlkfhfpaa", sum := "8e66120814e6662bc60a5b2d0e891ee3965f94c962bc09602f2c6e11a85ea473", func := "bitcast/bitcastlaw07.AdvertForged", spec := "advertForged", inPlace := ["internal/bytealg.Compare"], apart := false }
def AdvertForgedSaid : Prop := advertForgedRow.holds Try.pinned (OpenSpec.ofChange advertForgedSpec)

/-- ITS FALSE NEIGHBOUR: 'it returns false'. Refute it at one input. -/
def advertForgedWrong : ChangeSpec := { name := "advertForged", fn := fun _ => fun
  | [d] => { results := [.lit (.bool false)], args := [d] }
  | _ => none }
def AdvertForgedWrongFalsely : Prop := advertForgedRow.holds Try.pinned (OpenSpec.ofChange advertForgedWrong)

/-- 'bitcastlaw07.AdvertNewer': WHATEVER THE INPUT: true; the input reads as it did. -/
def advertNewerSpec : ChangeSpec := { name := "advertNewer", fn := fun _ => fun
  | [d1, d2, d3] => { results := [.lit (.bool true)], args := [d1, d2, d3] }
  | _ => none }
def advertNewerRow : OpenClaim := { program := "ytmofipnlkfhfpaa", sum := "8e66120814e6662bc60a5b2d0e891ee3965f94c962bc09602f2c6e11a85ea473", func := "bitcast/bitcastlaw07.AdvertNewer", spec := "advertNewer", inPlace := ["internal/bytealg.Compare"], apart := false }
def AdvertNewerSaid : Prop := advertNewerRow.holds Try.pinned (OpenSpec.ofChange advertNewerSpec)

/-- ITS FALSE NEIGHBOUR: 'it returns false'. Refute it at one input. -/
def advertNewerWrong : ChangeSpec := { name := "advertNewer", fn := fun _ => fun
  | [d1, d2, d3] => { results := [.lit (.bool false)], args := [d1, d2, d3] }
  | _ => none }
def AdvertNewerWrongFalsely : Prop := advertNewerRow.holds Try.pinned (OpenSpec.ofChange advertNewerWrong)

/-- 'bitcastlaw07.AdvertOrder': WHATEVER THE INPUT: true; the input reads as it did. -/
def advertOrderSpec : ChangeSpec := { name := "advertOrder", fn := fun _ => fun
  | [d] => { results := [.lit (.bool true)], args := [d] }
  | _ => none }
def advertOrderRow : OpenClaim := { program := "ytmofipnlkfhfpaa", sum := "8e66120814e6662bc60a5b2d0e891ee3965f94c962bc09602f2c6e11a85ea473", func := "bitcast/bitcastlaw07.AdvertOrder", spec := "advertOrder", inPlace := ["internal/bytealg.Compare"], apart := false }
def AdvertOrderSaid : Prop := advertOrderRow.holds Try.pinned (OpenSpec.ofChange advertOrderSpec)

/-- ITS FALSE NEIGHBOUR: 'it returns false'. Refute it at one input. -/
def advertOrderWrong : ChangeSpec := { name := "advertOrder", fn := fun _ => fun
  | [d] => { results := [.lit (.bool false)], args := [d] }
  | _ => none }
def AdvertOrderWrongFalsely : Prop := advertOrderRow.holds Try.pinned (OpenSpec.ofChange advertOrderWrong)

/-- 'bitcastlaw07.AdvertValid': WHATEVER THE INPUT: true; the input reads as it did. -/
def advertValidSpec : ChangeSpec := { name := "advertValid", fn := fun _ => fun
  | [d1, d2] => { results := [.lit (.bool true)], args := [d1, d2] }
  | _ => none }
def advertValidRow : OpenClaim := { program := "ytmofipnlkfhfpaa", sum := "8e66120814e6662bc60a5b2d0e891ee3965f94c962bc09602f2c6e11a85ea473", func := "bitcast/bitcastlaw07.AdvertValid", spec := "advertValid", inPlace := ["internal/bytealg.Compare"], apart := false }
def AdvertValidSaid : Prop := advertValidRow.holds Try.pinned (OpenSpec.ofChange advertValidSpec)

/-- ITS FALSE NEIGHBOUR: 'it returns false'. Refute it at one input. -/
def advertValidWrong : ChangeSpec := { name := "advertValid", fn := fun _ => fun
  | [d1, d2] => { results := [.lit (.bool false)], args := [d1, d2] }
  | _ => none }
def AdvertValidWrongFalsely : Prop := advertValidRow.holds Try.pinned (OpenSpec.ofChange advertValidWrong)

/-- 'bitcastlaw07.AdvertOf': WHATEVER THE INPUT: true; the input reads as it did. -/
def advertOfSpec : ChangeSpec := { name := "advertOf", fn := fun _ => fun
  | [d1, d2, d3, d4] => { results := [.lit (.bool true)], args := [d1, d2, d3, d4] }
  | _ => none }
def advertOfRow : OpenClaim := { program := "ytmofipnlkfhfpaa", sum := "8e66120814e6662bc60a5b2d0e891ee3965f94c962bc09602f2c6e11a85ea473", func := "bitcast/bitcastlaw07.AdvertOf", spec := "advertOf", inPlace := ["internal/bytealg.Compare"], unfollowed := true, recurses := true, apart := false }
def AdvertOfSaid : Prop := advertOfRow.holds Try.pinned (OpenSpec.ofChange advertOfSpec)

/-- ITS FALSE NEIGHBOUR: 'it returns false'. Refute it at one input. -/
def advertOfWrong : ChangeSpec := { name := "advertOf", fn := fun _ => fun
  | [d1, d2, d3, d4] => { results := [.lit (.bool false)], args := [d1, d2, d3, d4] }
  | _ => none }
def AdvertOfWrongFalsely : Prop := advertOfRow.holds Try.pinned (OpenSpec.ofChange advertOfWrong)

/- THE SECOND FORM. 'bulk': how many values and letters a reading holds, each counted each time it is reached (what is shared counts as often as it is met; a slice's spare places count too). A statement '..UptoSaid' is the law's where the arguments, and the package variables that the reading takes, are together of bulk at most 1048576: NARROWER than '..Said'. Prove '..Said' where nothing that the law and all that it calls make is longer than what came in: it says more and counts as full. Else prove '..UptoSaid'. A law counts once. -/
mutual
def uptoBulk {H : Type} : DataW H → Nat
  | .lit (.string bytes) => bytes.length + 1
  | .lit _ => 1
  | .nil => 1
  | .ptr d => uptoBulk d + 1
  | .slice elems spare => uptoBulkAll elems + uptoBulkAll spare + 1
  | .agg parts => uptoBulkAll parts + 1
  | .iface _ d => uptoBulk d + 1
  | .map entries => uptoBulkEntries entries + 1
  | .held _ => 1
def uptoBulkAll {H : Type} : List (DataW H) → Nat
  | [] => 0
  | d :: r => uptoBulk d + uptoBulkAll r
def uptoBulkEntries {H : Type} : List (Lit × DataW H) → Nat
  | [] => 0
  | x :: r => uptoBulkEntry x + uptoBulkEntries r
def uptoBulkEntry {H : Type} : Lit × DataW H → Nat
  | (.string bytes, d) => bytes.length + uptoBulk d + 1
  | (_, d) => uptoBulk d + 1
 end
def uptoSmall : (H : Type) → List (DataW H) → Bool := fun _ ds => decide (uptoBulkAll ds ≤ 1048576)
def OpenSpec.upto (s : _root_.Go.ChangeSpec) : _root_.Go.OpenSpec := { _root_.Go.OpenSpec.ofChange s with cond := some uptoSmall }

/-- 'bitcastlaw07.AdvertEncodes', WHERE WHAT IT READS IS OF BULK AT MOST 1048576: true; the input reads as it did. -/
def advertEncodesUptoRow : OpenClaim := { program := "ytmofipnlkfhfpaa", sum := "8e66120814e6662bc60a5b2d0e891ee3965f94c962bc09602f2c6e11a85ea473", func := "bitcast/bitcastlaw07.AdvertEncodes", spec := "advertEncodes", inPlace := ["internal/bytealg.Compare"], apart := false, narrowed := true }
def AdvertEncodesUptoSaid : Prop := advertEncodesUptoRow.holds Try.pinned (OpenSpec.upto advertEncodesSpec)

/-- 'bitcastlaw07.AdvertDecodes', WHERE WHAT IT READS IS OF BULK AT MOST 1048576: true; the input reads as it did. -/
def advertDecodesUptoRow : OpenClaim := { program := "ytmofipnlkfhfpaa", sum := "8e66120814e6662bc60a5b2d0e891ee3965f94c962bc09602f2c6e11a85ea473", func := "bitcast/bitcastlaw07.AdvertDecodes", spec := "advertDecodes", inPlace := ["internal/bytealg.Compare"], apart := false, narrowed := true }
def AdvertDecodesUptoSaid : Prop := advertDecodesUptoRow.holds Try.pinned (OpenSpec.upto advertDecodesSpec)

/-- 'bitcastlaw07.AdvertForged', WHERE WHAT IT READS IS OF BULK AT MOST 1048576: true; the input reads as it did. -/
def advertForgedUptoRow : OpenClaim := { program := "ytmofipnlkfhfpaa", sum := "8e66120814e6662bc60a5b2d0e891ee3965f94c962bc09602f2c6e11a85ea473", func := "bitcast/bitcastlaw07.AdvertForged", spec := "advertForged", inPlace := ["internal/bytealg.Compare"], apart := false, narrowed := true }
def AdvertForgedUptoSaid : Prop := advertForgedUptoRow.holds Try.pinned (OpenSpec.upto advertForgedSpec)

/-- 'bitcastlaw07.AdvertNewer', WHERE WHAT IT READS IS OF BULK AT MOST 1048576: true; the input reads as it did. -/
def advertNewerUptoRow : OpenClaim := { program := "ytmofipnlkfhfpaa", sum := "8e66120814e6662bc60a5b2d0e891ee3965f94c962bc09602f2c6e11a85ea473", func := "bitcast/bitcastlaw07.AdvertNewer", spec := "advertNewer", inPlace := ["internal/bytealg.Compare"], apart := false, narrowed := true }
def AdvertNewerUptoSaid : Prop := advertNewerUptoRow.holds Try.pinned (OpenSpec.upto advertNewerSpec)

/-- 'bitcastlaw07.AdvertOrder', WHERE WHAT IT READS IS OF BULK AT MOST 1048576: true; the input reads as it did. -/
def advertOrderUptoRow : OpenClaim := { program := "ytmofipnlkfhfpaa", sum := "8e66120814e6662bc60a5b2d0e891ee3965f94c962bc09602f2c6e11a85ea473", func := "bitcast/bitcastlaw07.AdvertOrder", spec := "advertOrder", inPlace := ["internal/bytealg.Compare"], apart := false, narrowed := true }
def AdvertOrderUptoSaid : Prop := advertOrderUptoRow.holds Try.pinned (OpenSpec.upto advertOrderSpec)

/-- 'bitcastlaw07.AdvertValid', WHERE WHAT IT READS IS OF BULK AT MOST 1048576: true; the input reads as it did. -/
def advertValidUptoRow : OpenClaim := { program := "ytmofipnlkfhfpaa", sum := "8e66120814e6662bc60a5b2d0e891ee3965f94c962bc09602f2c6e11a85ea473", func := "bitcast/bitcastlaw07.AdvertValid", spec := "advertValid", inPlace := ["internal/bytealg.Compare"], apart := false, narrowed := true }
def AdvertValidUptoSaid : Prop := advertValidUptoRow.holds Try.pinned (OpenSpec.upto advertValidSpec)

/-- 'bitcastlaw07.AdvertOf', WHERE WHAT IT READS IS OF BULK AT MOST 1048576: true; the input reads as it did. -/
def advertOfUptoRow : OpenClaim := { program := "ytmofipnlkfhfpaa", sum := "8e66120814e6662bc60a5b2d0e891ee3965f94c962bc09602f2c6e11a85ea473", func := "bitcast/bitcastlaw07.AdvertOf", spec := "advertOf", inPlace := ["internal/bytealg.Compare"], unfollowed := true, recurses := true, apart := false, narrowed := true }
def AdvertOfUptoSaid : Prop := advertOfUptoRow.holds Try.pinned (OpenSpec.upto advertOfSpec)

end Rows
end Go.Proofs.Ytmofipnlkfhfpaa
