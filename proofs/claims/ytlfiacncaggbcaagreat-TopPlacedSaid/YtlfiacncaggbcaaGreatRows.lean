/-
  No cell of these rows narrows 'for every input' (looked for: loops, veiled, ifaces, maps, wideKeys, modest, calm, conditions, laid).
  DERIVED. THE GIVEN ROWS OF THIS SEAT. 3 by the template 'for every input the law returns true; each argument reads behind the call as it read before'; 0 by the template 'total and deterministic' (their statements: YtlfiacncaggbcaaGreatTotals.lean).
  GIVEN WITH THE SEED: the statements are not yours to turn. If you find one false, say at which input.
  Laid BY PROGRAM, IN A SANDBOX (cutbox-rows.mjs): the forced cells as the released guide's own fill.sh prints them over the translation 24ae5b7c4efdb7ab… (all of the seat's roots in one cut). By AI agents, Wed Nov 11 2026. No macro, syntax, notation, axiom, sorry.
-/
import Derived.Test.YtlfiacncaggbcaaGreatChecked
import GoSem.Claim
import GoSem.ClaimJoined
import GoSem.ClaimMapViews
import Derived.JoinedTies
import Derived.KernelRfl
namespace Go.Proofs.YtlfiacncaggbcaaGreat
/- THE CELL 'sum', in the pinned program and in every row, IS THE sha256 OF THE DUMP (.gsa) THAT YtlfiacncaggbcaaGreatProg.lean LOADS. Nothing in Lean hashes anything: it is a label: what it is worth is what the hold of that sum in a sandbox is worth. -/
noncomputable def Tryz.pinned : Pinned := { name := "ytlfiacncaggbcaagreat", sum := "24ae5b7c4efdb7ab11b1a42792fa725795dd8219b22564f121249e95814b67ad", checked := Tryz.checked }
namespace Rows
def none {H : Type} : Left H := { results := [], args := [] }

/-- 'bitcasttop.TopPatched': WHATEVER THE INPUT: true; the input reads as it did. -/
def topPatchedSpec : ChangeSpec := { name := "topPatched", fn := fun _ => fun
  | [d] => { results := [.lit (.bool true)], args := [d] }
  | _ => none }
def topPatchedRow : OpenClaim := { program := "ytlfiacncaggbcaagreat", sum := "24ae5b7c4efdb7ab11b1a42792fa725795dd8219b22564f121249e95814b67ad", func := "bitcast/bitcasttop.TopPatched", spec := "topPatched", unfollowed := true, recurses := true, plainKeys := false, apart := false }
def TopPatchedSaid : Prop := topPatchedRow.holds Tryz.pinned (OpenSpec.ofChange topPatchedSpec)

/-- ITS FALSE NEIGHBOUR: 'it returns false'. Refute it at one input. -/
def topPatchedWrong : ChangeSpec := { name := "topPatched", fn := fun _ => fun
  | [d] => { results := [.lit (.bool false)], args := [d] }
  | _ => none }
def TopPatchedWrongFalsely : Prop := topPatchedRow.holds Tryz.pinned (OpenSpec.ofChange topPatchedWrong)

/-- 'bitcasttop.TopPlaced': WHATEVER THE INPUT: true; the input reads as it did. -/
def topPlacedSpec : ChangeSpec := { name := "topPlaced", fn := fun _ => fun
  | [d] => { results := [.lit (.bool true)], args := [d] }
  | _ => none }
def topPlacedRow : OpenClaim := { program := "ytlfiacncaggbcaagreat", sum := "24ae5b7c4efdb7ab11b1a42792fa725795dd8219b22564f121249e95814b67ad", func := "bitcast/bitcasttop.TopPlaced", spec := "topPlaced", unfollowed := true, recurses := true, plainKeys := false, apart := false }
def TopPlacedSaid : Prop := topPlacedRow.holds Tryz.pinned (OpenSpec.ofChange topPlacedSpec)

/-- ITS FALSE NEIGHBOUR: 'it returns false'. Refute it at one input. -/
def topPlacedWrong : ChangeSpec := { name := "topPlaced", fn := fun _ => fun
  | [d] => { results := [.lit (.bool false)], args := [d] }
  | _ => none }
def TopPlacedWrongFalsely : Prop := topPlacedRow.holds Tryz.pinned (OpenSpec.ofChange topPlacedWrong)

/-- 'bitcasttop.TopEngineered': WHATEVER THE INPUT: true; the input reads as it did. -/
def topEngineeredSpec : ChangeSpec := { name := "topEngineered", fn := fun _ => fun
  | [d] => { results := [.lit (.bool true)], args := [d] }
  | _ => none }
def topEngineeredRow : OpenClaim := { program := "ytlfiacncaggbcaagreat", sum := "24ae5b7c4efdb7ab11b1a42792fa725795dd8219b22564f121249e95814b67ad", func := "bitcast/bitcasttop.TopEngineered", spec := "topEngineered", unfollowed := true, recurses := true, plainKeys := false, apart := false }
def TopEngineeredSaid : Prop := topEngineeredRow.holds Tryz.pinned (OpenSpec.ofChange topEngineeredSpec)

/-- ITS FALSE NEIGHBOUR: 'it returns false'. Refute it at one input. -/
def topEngineeredWrong : ChangeSpec := { name := "topEngineered", fn := fun _ => fun
  | [d] => { results := [.lit (.bool false)], args := [d] }
  | _ => none }
def TopEngineeredWrongFalsely : Prop := topEngineeredRow.holds Tryz.pinned (OpenSpec.ofChange topEngineeredWrong)

/- THE SECOND FORM. 'bulk': how many values and letters a reading holds, each counted each time it is reached (what is shared counts as often as it is met; a slice's spare places count too). A statement '..UptoSaid' is the law's where the arguments, and the package variables that the reading takes, are together of bulk at most 1048576: NARROWER than '..Said'. Prove '..Said' where nothing that the law and all that it calls make is longer than what came in: it says more and counts as full. Else prove '..UptoSaid'. A law counts once. -/
mutual
def uptoBulk {H : Type} : DataW H → Nat
  | .lit (.string bytes) => bytes.length + 1
  | .lit _ => 1
  | .nil => 1
  | .ptr d => uptoBulk d + 1
  | .slice elems spare => uptoBulkAll elems + uptoBulkAll spare + 1
  | .agg parts => uptoBulkAll parts + 1
  | .iface _ d => uptoBulk d + 1
  | .map entries => uptoBulkEntries entries + 1
  | .held _ => 1
def uptoBulkAll {H : Type} : List (DataW H) → Nat
  | [] => 0
  | d :: r => uptoBulk d + uptoBulkAll r
def uptoBulkEntries {H : Type} : List (Lit × DataW H) → Nat
  | [] => 0
  | x :: r => uptoBulkEntry x + uptoBulkEntries r
def uptoBulkEntry {H : Type} : Lit × DataW H → Nat
  | (.string bytes, d) => bytes.length + uptoBulk d + 1
  | (_, d) => uptoBulk d + 1
 end
def uptoSmall : (H : Type) → List (DataW H) → Bool := fun _ ds => decide (uptoBulkAll ds ≤ 1048576)
def OpenSpec.upto (s : _root_.Go.ChangeSpec) : _root_.Go.OpenSpec := { _root_.Go.OpenSpec.ofChange s with cond := some uptoSmall }

/-- 'bitcasttop.TopPatched', WHERE WHAT IT READS IS OF BULK AT MOST 1048576: true; the input reads as it did. -/
def topPatchedUptoRow : OpenClaim := { program := "ytlfiacncaggbcaagreat", sum := "24ae5b7c4efdb7ab11b1a42792fa725795dd8219b22564f121249e95814b67ad", func := "bitcast/bitcasttop.TopPatched", spec := "topPatched", unfollowed := true, recurses := true, plainKeys := false, apart := false, narrowed := true }
def TopPatchedUptoSaid : Prop := topPatchedUptoRow.holds Tryz.pinned (OpenSpec.upto topPatchedSpec)

/-- 'bitcasttop.TopPlaced', WHERE WHAT IT READS IS OF BULK AT MOST 1048576: true; the input reads as it did. -/
def topPlacedUptoRow : OpenClaim := { program := "ytlfiacncaggbcaagreat", sum := "24ae5b7c4efdb7ab11b1a42792fa725795dd8219b22564f121249e95814b67ad", func := "bitcast/bitcasttop.TopPlaced", spec := "topPlaced", unfollowed := true, recurses := true, plainKeys := false, apart := false, narrowed := true }
def TopPlacedUptoSaid : Prop := topPlacedUptoRow.holds Tryz.pinned (OpenSpec.upto topPlacedSpec)

/-- 'bitcasttop.TopEngineered', WHERE WHAT IT READS IS OF BULK AT MOST 1048576: true; the input reads as it did. -/
def topEngineeredUptoRow : OpenClaim := { program := "ytlfiacncaggbcaagreat", sum := "24ae5b7c4efdb7ab11b1a42792fa725795dd8219b22564f121249e95814b67ad", func := "bitcast/bitcasttop.TopEngineered", spec := "topEngineered", unfollowed := true, recurses := true, plainKeys := false, apart := false, narrowed := true }
def TopEngineeredUptoSaid : Prop := topEngineeredUptoRow.holds Tryz.pinned (OpenSpec.upto topEngineeredSpec)

end Rows
end Go.Proofs.YtlfiacncaggbcaaGreat
