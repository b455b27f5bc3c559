/-
  No cell of these rows narrows 'for every input' (looked for: loops, veiled, ifaces, maps, wideKeys, modest, calm, conditions, laid).
  DERIVED. THE GIVEN ROWS OF THIS SEAT. 6 by the template 'for every input the law returns true; each argument reads behind the call as it read before'; 0 by the template 'total and deterministic' (their statements: YtahapkbjmfmaaaaTotals.lean).
  GIVEN WITH THE SEED: the statements are not yours to turn. If you find one false, say at which input.
  Laid BY PROGRAM, IN A SANDBOX (cutbox-rows.mjs): the forced cells as the released guide's own fill.sh prints them over the translation 097d36f4cf9013da… (all of the seat's roots in one cut). By AI agents, Wed Nov 11 2026. No macro, syntax, notation, axiom, sorry.
-/
import Derived.Test.YtahapkbjmfmaaaaChecked
import GoSem.Claim
import GoSem.ClaimJoined
import GoSem.ClaimMapViews
import Derived.JoinedTies
import Derived.KernelRfl
namespace Go.Proofs.Ytahapkbjmfmaaaa
/- THE CELL 'sum', in the pinned program and in every row, IS THE sha256 OF THE DUMP (.gsa) THAT YtahapkbjmfmaaaaProg.lean LOADS. Nothing in Lean hashes anything: it is a label: what it is worth is what the hold of that sum in a sandbox is worth. -/
noncomputable def Try.pinned : Pinned := { name := "ytahapkbjmfmaaaa", sum := "097d36f4cf9013da01ecafabc6259d3f3751529d320b6cac65560dff56013966", checked := Try.checked }
namespace Rows
def none {H : Type} : Left H := { results := [], args := [] }

/-- 'bitcastlaw04.StackValid': WHATEVER THE INPUT: true; the input reads as it did. -/
def stackValidSpec : ChangeSpec := { name := "stackValid", fn := fun _ => fun
  | [d1, d2, d3] => { results := [.lit (.bool true)], args := [d1, d2, d3] }
  | _ => none }
def stackValidRow : OpenClaim := { program := "ytahapkbjmfmaaaa", sum := "097d36f4cf9013da01ecafabc6259d3f3751529d320b6cac65560dff56013966", func := "bitcast/bitcastlaw04.StackValid", spec := "stackValid", unfollowed := true, recurses := true, apart := false }
def StackValidSaid : Prop := stackValidRow.holds Try.pinned (OpenSpec.ofChange stackValidSpec)

/-- ITS FALSE NEIGHBOUR: 'it returns false'. Refute it at one input. -/
def stackValidWrong : ChangeSpec := { name := "stackValid", fn := fun _ => fun
  | [d1, d2, d3] => { results := [.lit (.bool false)], args := [d1, d2, d3] }
  | _ => none }
def StackValidWrongFalsely : Prop := stackValidRow.holds Try.pinned (OpenSpec.ofChange stackValidWrong)

/-- 'bitcastlaw04.StackLabels': WHATEVER THE INPUT: true; the input reads as it did. -/
def stackLabelsSpec : ChangeSpec := { name := "stackLabels", fn := fun _ => fun
  | [d1, d2, d3] => { results := [.lit (.bool true)], args := [d1, d2, d3] }
  | _ => none }
def stackLabelsRow : OpenClaim := { program := "ytahapkbjmfmaaaa", sum := "097d36f4cf9013da01ecafabc6259d3f3751529d320b6cac65560dff56013966", func := "bitcast/bitcastlaw04.StackLabels", spec := "stackLabels", unfollowed := true, recurses := true, apart := false }
def StackLabelsSaid : Prop := stackLabelsRow.holds Try.pinned (OpenSpec.ofChange stackLabelsSpec)

/-- ITS FALSE NEIGHBOUR: 'it returns false'. Refute it at one input. -/
def stackLabelsWrong : ChangeSpec := { name := "stackLabels", fn := fun _ => fun
  | [d1, d2, d3] => { results := [.lit (.bool false)], args := [d1, d2, d3] }
  | _ => none }
def StackLabelsWrongFalsely : Prop := stackLabelsRow.holds Try.pinned (OpenSpec.ofChange stackLabelsWrong)

/-- 'bitcastlaw04.StackReads': WHATEVER THE INPUT: true; the input reads as it did. -/
def stackReadsSpec : ChangeSpec := { name := "stackReads", fn := fun _ => fun
  | [d1, d2] => { results := [.lit (.bool true)], args := [d1, d2] }
  | _ => none }
def stackReadsRow : OpenClaim := { program := "ytahapkbjmfmaaaa", sum := "097d36f4cf9013da01ecafabc6259d3f3751529d320b6cac65560dff56013966", func := "bitcast/bitcastlaw04.StackReads", spec := "stackReads", unfollowed := true, recurses := true, apart := false }
def StackReadsSaid : Prop := stackReadsRow.holds Try.pinned (OpenSpec.ofChange stackReadsSpec)

/-- ITS FALSE NEIGHBOUR: 'it returns false'. Refute it at one input. -/
def stackReadsWrong : ChangeSpec := { name := "stackReads", fn := fun _ => fun
  | [d1, d2] => { results := [.lit (.bool false)], args := [d1, d2] }
  | _ => none }
def StackReadsWrongFalsely : Prop := stackReadsRow.holds Try.pinned (OpenSpec.ofChange stackReadsWrong)

/-- 'bitcastlaw04.StackFrames': WHATEVER THE INPUT: true; the input reads as it did. -/
def stackFramesSpec : ChangeSpec := { name := "stackFrames", fn := fun _ => fun
  | [d1, d2] => { results := [.lit (.bool true)], args := [d1, d2] }
  | _ => none }
def stackFramesRow : OpenClaim := { program := "ytahapkbjmfmaaaa", sum := "097d36f4cf9013da01ecafabc6259d3f3751529d320b6cac65560dff56013966", func := "bitcast/bitcastlaw04.StackFrames", spec := "stackFrames", unfollowed := true, recurses := true, apart := false }
def StackFramesSaid : Prop := stackFramesRow.holds Try.pinned (OpenSpec.ofChange stackFramesSpec)

/-- ITS FALSE NEIGHBOUR: 'it returns false'. Refute it at one input. -/
def stackFramesWrong : ChangeSpec := { name := "stackFrames", fn := fun _ => fun
  | [d1, d2] => { results := [.lit (.bool false)], args := [d1, d2] }
  | _ => none }
def StackFramesWrongFalsely : Prop := stackFramesRow.holds Try.pinned (OpenSpec.ofChange stackFramesWrong)

/-- 'bitcastlaw04.StackDecodes': WHATEVER THE INPUT: true; the input reads as it did. -/
def stackDecodesSpec : ChangeSpec := { name := "stackDecodes", fn := fun _ => fun
  | [d1, d2] => { results := [.lit (.bool true)], args := [d1, d2] }
  | _ => none }
def stackDecodesRow : OpenClaim := { program := "ytahapkbjmfmaaaa", sum := "097d36f4cf9013da01ecafabc6259d3f3751529d320b6cac65560dff56013966", func := "bitcast/bitcastlaw04.StackDecodes", spec := "stackDecodes", unfollowed := true, recurses := true, apart := false }
def StackDecodesSaid : Prop := stackDecodesRow.holds Try.pinned (OpenSpec.ofChange stackDecodesSpec)

/-- ITS FALSE NEIGHBOUR: 'it returns false'. Refute it at one input. -/
def stackDecodesWrong : ChangeSpec := { name := "stackDecodes", fn := fun _ => fun
  | [d1, d2] => { results := [.lit (.bool false)], args := [d1, d2] }
  | _ => none }
def StackDecodesWrongFalsely : Prop := stackDecodesRow.holds Try.pinned (OpenSpec.ofChange stackDecodesWrong)

/-- 'bitcastlaw04.StackPushes': WHATEVER THE INPUT: true; the input reads as it did. -/
def stackPushesSpec : ChangeSpec := { name := "stackPushes", fn := fun _ => fun
  | [d1, d2, d3] => { results := [.lit (.bool true)], args := [d1, d2, d3] }
  | _ => none }
def stackPushesRow : OpenClaim := { program := "ytahapkbjmfmaaaa", sum := "097d36f4cf9013da01ecafabc6259d3f3751529d320b6cac65560dff56013966", func := "bitcast/bitcastlaw04.StackPushes", spec := "stackPushes", unfollowed := true, recurses := true, apart := false }
def StackPushesSaid : Prop := stackPushesRow.holds Try.pinned (OpenSpec.ofChange stackPushesSpec)

/-- ITS FALSE NEIGHBOUR: 'it returns false'. Refute it at one input. -/
def stackPushesWrong : ChangeSpec := { name := "stackPushes", fn := fun _ => fun
  | [d1, d2, d3] => { results := [.lit (.bool false)], args := [d1, d2, d3] }
  | _ => none }
def StackPushesWrongFalsely : Prop := stackPushesRow.holds Try.pinned (OpenSpec.ofChange stackPushesWrong)

/- THE SECOND FORM. 'bulk': how many values and letters a reading holds, each counted each time it is reached (what is shared counts as often as it is met; a slice's spare places count too). A statement '..UptoSaid' is the law's where the arguments, and the package variables that the reading takes, are together of bulk at most 1048576: NARROWER than '..Said'. Prove '..Said' where nothing that the law and all that it calls make is longer than what came in: it says more and counts as full. Else prove '..UptoSaid'. A law counts once. -/
mutual
def uptoBulk {H : Type} : DataW H → Nat
  | .lit (.string bytes) => bytes.length + 1
  | .lit _ => 1
  | .nil => 1
  | .ptr d => uptoBulk d + 1
  | .slice elems spare => uptoBulkAll elems + uptoBulkAll spare + 1
  | .agg parts => uptoBulkAll parts + 1
  | .iface _ d => uptoBulk d + 1
  | .map entries => uptoBulkEntries entries + 1
  | .held _ => 1
def uptoBulkAll {H : Type} : List (DataW H) → Nat
  | [] => 0
  | d :: r => uptoBulk d + uptoBulkAll r
def uptoBulkEntries {H : Type} : List (Lit × DataW H) → Nat
  | [] => 0
  | x :: r => uptoBulkEntry x + uptoBulkEntries r
def uptoBulkEntry {H : Type} : Lit × DataW H → Nat
  | (.string bytes, d) => bytes.length + uptoBulk d + 1
  | (_, d) => uptoBulk d + 1
 end
def uptoSmall : (H : Type) → List (DataW H) → Bool := fun _ ds => decide (uptoBulkAll ds ≤ 1048576)
def OpenSpec.upto (s : _root_.Go.ChangeSpec) : _root_.Go.OpenSpec := { _root_.Go.OpenSpec.ofChange s with cond := some uptoSmall }

/-- 'bitcastlaw04.StackValid', WHERE WHAT IT READS IS OF BULK AT MOST 1048576: true; the input reads as it did. -/
def stackValidUptoRow : OpenClaim := { program := "ytahapkbjmfmaaaa", sum := "097d36f4cf9013da01ecafabc6259d3f3751529d320b6cac65560dff56013966", func := "bitcast/bitcastlaw04.StackValid", spec := "stackValid", unfollowed := true, recurses := true, apart := false, narrowed := true }
def StackValidUptoSaid : Prop := stackValidUptoRow.holds Try.pinned (OpenSpec.upto stackValidSpec)

/-- 'bitcastlaw04.StackLabels', WHERE WHAT IT READS IS OF BULK AT MOST 1048576: true; the input reads as it did. -/
def stackLabelsUptoRow : OpenClaim := { program := "ytahapkbjmfmaaaa", sum := "097d36f4cf9013da01ecafabc6259d3f3751529d320b6cac65560dff56013966", func := "bitcast/bitcastlaw04.StackLabels", spec := "stackLabels", unfollowed := true, recurses := true, apart := false, narrowed := true }
def StackLabelsUptoSaid : Prop := stackLabelsUptoRow.holds Try.pinned (OpenSpec.upto stackLabelsSpec)

/-- 'bitcastlaw04.StackReads', WHERE WHAT IT READS IS OF BULK AT MOST 1048576: true; the input reads as it did. -/
def stackReadsUptoRow : OpenClaim := { program := "ytahapkbjmfmaaaa", sum := "097d36f4cf9013da01ecafabc6259d3f3751529d320b6cac65560dff56013966", func := "bitcast/bitcastlaw04.StackReads", spec := "stackReads", unfollowed := true, recurses := true, apart := false, narrowed := true }
def StackReadsUptoSaid : Prop := stackReadsUptoRow.holds Try.pinned (OpenSpec.upto stackReadsSpec)

/-- 'bitcastlaw04.StackFrames', WHERE WHAT IT READS IS OF BULK AT MOST 1048576: true; the input reads as it did. -/
def stackFramesUptoRow : OpenClaim := { program := "ytahapkbjmfmaaaa", sum := "097d36f4cf9013da01ecafabc6259d3f3751529d320b6cac65560dff56013966", func := "bitcast/bitcastlaw04.StackFrames", spec := "stackFrames", unfollowed := true, recurses := true, apart := false, narrowed := true }
def StackFramesUptoSaid : Prop := stackFramesUptoRow.holds Try.pinned (OpenSpec.upto stackFramesSpec)

/-- 'bitcastlaw04.StackDecodes', WHERE WHAT IT READS IS OF BULK AT MOST 1048576: true; the input reads as it did. -/
def stackDecodesUptoRow : OpenClaim := { program := "ytahapkbjmfmaaaa", sum := "097d36f4cf9013da01ecafabc6259d3f3751529d320b6cac65560dff56013966", func := "bitcast/bitcastlaw04.StackDecodes", spec := "stackDecodes", unfollowed := true, recurses := true, apart := false, narrowed := true }
def StackDecodesUptoSaid : Prop := stackDecodesUptoRow.holds Try.pinned (OpenSpec.upto stackDecodesSpec)

/-- 'bitcastlaw04.StackPushes', WHERE WHAT IT READS IS OF BULK AT MOST 1048576: true; the input reads as it did. -/
def stackPushesUptoRow : OpenClaim := { program := "ytahapkbjmfmaaaa", sum := "097d36f4cf9013da01ecafabc6259d3f3751529d320b6cac65560dff56013966", func := "bitcast/bitcastlaw04.StackPushes", spec := "stackPushes", unfollowed := true, recurses := true, apart := false, narrowed := true }
def StackPushesUptoSaid : Prop := stackPushesUptoRow.holds Try.pinned (OpenSpec.upto stackPushesSpec)

end Rows
end Go.Proofs.Ytahapkbjmfmaaaa
