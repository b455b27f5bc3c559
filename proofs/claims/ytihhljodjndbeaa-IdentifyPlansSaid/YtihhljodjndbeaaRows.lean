/-
  No cell of these rows narrows 'for every input' (looked for: loops, veiled, ifaces, maps, wideKeys, modest, calm, conditions, laid).
  DERIVED. THE GIVEN ROWS OF THIS SEAT. 7 by the template 'for every input the law returns true; each argument reads behind the call as it read before'; 0 by the template 'total and deterministic' (their statements: YtihhljodjndbeaaTotals.lean).
  GIVEN WITH THE SEED: the statements are not yours to turn. If you find one false, say at which input.
  Laid BY PROGRAM, IN A SANDBOX (cutbox-rows.mjs): the forced cells as the released guide's own fill.sh prints them over the translation 6f1a615f519a6740… (all of the seat's roots in one cut). By AI agents, Wed Nov 11 2026. No macro, syntax, notation, axiom, sorry.
-/
import Derived.Test.YtihhljodjndbeaaChecked
import GoSem.Claim
import GoSem.ClaimJoined
import GoSem.ClaimMapViews
import Derived.JoinedTies
import Derived.KernelRfl
namespace Go.Proofs.Ytihhljodjndbeaa
/- THE CELL 'sum', in the pinned program and in every row, IS THE sha256 OF THE DUMP (.gsa) THAT YtihhljodjndbeaaProg.lean LOADS. Nothing in Lean hashes anything: it is a label: what it is worth is what the hold of that sum in a sandbox is worth. -/
noncomputable def Try.pinned : Pinned := { name := "ytihhljodjndbeaa", sum := "6f1a615f519a67406731cace74f22d65808a93135161209a05436b085f9e31e6", checked := Try.checked }
namespace Rows
def none {H : Type} : Left H := { results := [], args := [] }

/-- 'bitcastlaw10.IdentifyResolves': WHATEVER THE INPUT: true; the input reads as it did. -/
def identifyResolvesSpec : ChangeSpec := { name := "identifyResolves", fn := fun _ => fun
  | [d1, d2, d3] => { results := [.lit (.bool true)], args := [d1, d2, d3] }
  | _ => none }
def identifyResolvesRow : OpenClaim := { program := "ytihhljodjndbeaa", sum := "6f1a615f519a67406731cace74f22d65808a93135161209a05436b085f9e31e6", func := "bitcast/bitcastlaw10.IdentifyResolves", spec := "identifyResolves", unfollowed := true, recurses := true, apart := false }
def IdentifyResolvesSaid : Prop := identifyResolvesRow.holds Try.pinned (OpenSpec.ofChange identifyResolvesSpec)

/-- ITS FALSE NEIGHBOUR: 'it returns false'. Refute it at one input. -/
def identifyResolvesWrong : ChangeSpec := { name := "identifyResolves", fn := fun _ => fun
  | [d1, d2, d3] => { results := [.lit (.bool false)], args := [d1, d2, d3] }
  | _ => none }
def IdentifyResolvesWrongFalsely : Prop := identifyResolvesRow.holds Try.pinned (OpenSpec.ofChange identifyResolvesWrong)

/-- 'bitcastlaw10.IdentifyFull': WHATEVER THE INPUT: true; the input reads as it did. -/
def identifyFullSpec : ChangeSpec := { name := "identifyFull", fn := fun _ => fun
  | [d] => { results := [.lit (.bool true)], args := [d] }
  | _ => none }
def identifyFullRow : OpenClaim := { program := "ytihhljodjndbeaa", sum := "6f1a615f519a67406731cace74f22d65808a93135161209a05436b085f9e31e6", func := "bitcast/bitcastlaw10.IdentifyFull", spec := "identifyFull", unfollowed := true, recurses := true, apart := false }
def IdentifyFullSaid : Prop := identifyFullRow.holds Try.pinned (OpenSpec.ofChange identifyFullSpec)

/-- ITS FALSE NEIGHBOUR: 'it returns false'. Refute it at one input. -/
def identifyFullWrong : ChangeSpec := { name := "identifyFull", fn := fun _ => fun
  | [d] => { results := [.lit (.bool false)], args := [d] }
  | _ => none }
def IdentifyFullWrongFalsely : Prop := identifyFullRow.holds Try.pinned (OpenSpec.ofChange identifyFullWrong)

/-- 'bitcastlaw10.IdentifyPlaces': WHATEVER THE INPUT: true; the input reads as it did. -/
def identifyPlacesSpec : ChangeSpec := { name := "identifyPlaces", fn := fun _ => fun
  | [d1, d2, d3, d4, d5] => { results := [.lit (.bool true)], args := [d1, d2, d3, d4, d5] }
  | _ => none }
def identifyPlacesRow : OpenClaim := { program := "ytihhljodjndbeaa", sum := "6f1a615f519a67406731cace74f22d65808a93135161209a05436b085f9e31e6", func := "bitcast/bitcastlaw10.IdentifyPlaces", spec := "identifyPlaces", unfollowed := true, recurses := true, apart := false }
def IdentifyPlacesSaid : Prop := identifyPlacesRow.holds Try.pinned (OpenSpec.ofChange identifyPlacesSpec)

/-- ITS FALSE NEIGHBOUR: 'it returns false'. Refute it at one input. -/
def identifyPlacesWrong : ChangeSpec := { name := "identifyPlaces", fn := fun _ => fun
  | [d1, d2, d3, d4, d5] => { results := [.lit (.bool false)], args := [d1, d2, d3, d4, d5] }
  | _ => none }
def IdentifyPlacesWrongFalsely : Prop := identifyPlacesRow.holds Try.pinned (OpenSpec.ofChange identifyPlacesWrong)

/-- 'bitcastlaw10.IdentifyChecks': WHATEVER THE INPUT: true; the input reads as it did. -/
def identifyChecksSpec : ChangeSpec := { name := "identifyChecks", fn := fun _ => fun
  | [d1, d2, d3] => { results := [.lit (.bool true)], args := [d1, d2, d3] }
  | _ => none }
def identifyChecksRow : OpenClaim := { program := "ytihhljodjndbeaa", sum := "6f1a615f519a67406731cace74f22d65808a93135161209a05436b085f9e31e6", func := "bitcast/bitcastlaw10.IdentifyChecks", spec := "identifyChecks", unfollowed := true, recurses := true, apart := false }
def IdentifyChecksSaid : Prop := identifyChecksRow.holds Try.pinned (OpenSpec.ofChange identifyChecksSpec)

/-- ITS FALSE NEIGHBOUR: 'it returns false'. Refute it at one input. -/
def identifyChecksWrong : ChangeSpec := { name := "identifyChecks", fn := fun _ => fun
  | [d1, d2, d3] => { results := [.lit (.bool false)], args := [d1, d2, d3] }
  | _ => none }
def IdentifyChecksWrongFalsely : Prop := identifyChecksRow.holds Try.pinned (OpenSpec.ofChange identifyChecksWrong)

/-- 'bitcastlaw10.IdentifySettles': WHATEVER THE INPUT: true; the input reads as it did. -/
def identifySettlesSpec : ChangeSpec := { name := "identifySettles", fn := fun _ => fun
  | [d] => { results := [.lit (.bool true)], args := [d] }
  | _ => none }
def identifySettlesRow : OpenClaim := { program := "ytihhljodjndbeaa", sum := "6f1a615f519a67406731cace74f22d65808a93135161209a05436b085f9e31e6", func := "bitcast/bitcastlaw10.IdentifySettles", spec := "identifySettles", unfollowed := true, recurses := true, apart := false }
def IdentifySettlesSaid : Prop := identifySettlesRow.holds Try.pinned (OpenSpec.ofChange identifySettlesSpec)

/-- ITS FALSE NEIGHBOUR: 'it returns false'. Refute it at one input. -/
def identifySettlesWrong : ChangeSpec := { name := "identifySettles", fn := fun _ => fun
  | [d] => { results := [.lit (.bool false)], args := [d] }
  | _ => none }
def IdentifySettlesWrongFalsely : Prop := identifySettlesRow.holds Try.pinned (OpenSpec.ofChange identifySettlesWrong)

/-- 'bitcastlaw10.IdentifyCounts': WHATEVER THE INPUT: true; the input reads as it did. -/
def identifyCountsSpec : ChangeSpec := { name := "identifyCounts", fn := fun _ => fun
  | [d1, d2, d3] => { results := [.lit (.bool true)], args := [d1, d2, d3] }
  | _ => none }
def identifyCountsRow : OpenClaim := { program := "ytihhljodjndbeaa", sum := "6f1a615f519a67406731cace74f22d65808a93135161209a05436b085f9e31e6", func := "bitcast/bitcastlaw10.IdentifyCounts", spec := "identifyCounts", unfollowed := true, recurses := true, apart := false }
def IdentifyCountsSaid : Prop := identifyCountsRow.holds Try.pinned (OpenSpec.ofChange identifyCountsSpec)

/-- ITS FALSE NEIGHBOUR: 'it returns false'. Refute it at one input. -/
def identifyCountsWrong : ChangeSpec := { name := "identifyCounts", fn := fun _ => fun
  | [d1, d2, d3] => { results := [.lit (.bool false)], args := [d1, d2, d3] }
  | _ => none }
def IdentifyCountsWrongFalsely : Prop := identifyCountsRow.holds Try.pinned (OpenSpec.ofChange identifyCountsWrong)

/-- 'bitcastlaw10.IdentifyPlans': WHATEVER THE INPUT: true; the input reads as it did. -/
def identifyPlansSpec : ChangeSpec := { name := "identifyPlans", fn := fun _ => fun
  | [d1, d2, d3] => { results := [.lit (.bool true)], args := [d1, d2, d3] }
  | _ => none }
def identifyPlansRow : OpenClaim := { program := "ytihhljodjndbeaa", sum := "6f1a615f519a67406731cace74f22d65808a93135161209a05436b085f9e31e6", func := "bitcast/bitcastlaw10.IdentifyPlans", spec := "identifyPlans", unfollowed := true, recurses := true, apart := false }
def IdentifyPlansSaid : Prop := identifyPlansRow.holds Try.pinned (OpenSpec.ofChange identifyPlansSpec)

/-- ITS FALSE NEIGHBOUR: 'it returns false'. Refute it at one input. -/
def identifyPlansWrong : ChangeSpec := { name := "identifyPlans", fn := fun _ => fun
  | [d1, d2, d3] => { results := [.lit (.bool false)], args := [d1, d2, d3] }
  | _ => none }
def IdentifyPlansWrongFalsely : Prop := identifyPlansRow.holds Try.pinned (OpenSpec.ofChange identifyPlansWrong)

/- THE SECOND FORM. 'bulk': how many values and letters a reading holds, each counted each time it is reached (what is shared counts as often as it is met; a slice's spare places count too). A statement '..UptoSaid' is the law's where the arguments, and the package variables that the reading takes, are together of bulk at most 1048576: NARROWER than '..Said'. Prove '..Said' where nothing that the law and all that it calls make is longer than what came in: it says more and counts as full. Else prove '..UptoSaid'. A law counts once. -/
mutual
def uptoBulk {H : Type} : DataW H → Nat
  | .lit (.string bytes) => bytes.length + 1
  | .lit _ => 1
  | .nil => 1
  | .ptr d => uptoBulk d + 1
  | .slice elems spare => uptoBulkAll elems + uptoBulkAll spare + 1
  | .agg parts => uptoBulkAll parts + 1
  | .iface _ d => uptoBulk d + 1
  | .map entries => uptoBulkEntries entries + 1
  | .held _ => 1
def uptoBulkAll {H : Type} : List (DataW H) → Nat
  | [] => 0
  | d :: r => uptoBulk d + uptoBulkAll r
def uptoBulkEntries {H : Type} : List (Lit × DataW H) → Nat
  | [] => 0
  | x :: r => uptoBulkEntry x + uptoBulkEntries r
def uptoBulkEntry {H : Type} : Lit × DataW H → Nat
  | (.string bytes, d) => bytes.length + uptoBulk d + 1
  | (_, d) => uptoBulk d + 1
 end
def uptoSmall : (H : Type) → List (DataW H) → Bool := fun _ ds => decide (uptoBulkAll ds ≤ 1048576)
def OpenSpec.upto (s : _root_.Go.ChangeSpec) : _root_.Go.OpenSpec := { _root_.Go.OpenSpec.ofChange s with cond := some uptoSmall }

/-- 'bitcastlaw10.IdentifyResolves', WHERE WHAT IT READS IS OF BULK AT MOST 1048576: true; the input reads as it did. -/
def identifyResolvesUptoRow : OpenClaim := { program := "ytihhljodjndbeaa", sum := "6f1a615f519a67406731cace74f22d65808a93135161209a05436b085f9e31e6", func := "bitcast/bitcastlaw10.IdentifyResolves", spec := "identifyResolves", unfollowed := true, recurses := true, apart := false, narrowed := true }
def IdentifyResolvesUptoSaid : Prop := identifyResolvesUptoRow.holds Try.pinned (OpenSpec.upto identifyResolvesSpec)

/-- 'bitcastlaw10.IdentifyFull', WHERE WHAT IT READS IS OF BULK AT MOST 1048576: true; the input reads as it did. -/
def identifyFullUptoRow : OpenClaim := { program := "ytihhljodjndbeaa", sum := "6f1a615f519a67406731cace74f22d65808a93135161209a05436b085f9e31e6", func := "bitcast/bitcastlaw10.IdentifyFull", spec := "identifyFull", unfollowed := true, recurses := true, apart := false, narrowed := true }
def IdentifyFullUptoSaid : Prop := identifyFullUptoRow.holds Try.pinned (OpenSpec.upto identifyFullSpec)

/-- 'bitcastlaw10.IdentifyPlaces', WHERE WHAT IT READS IS OF BULK AT MOST 1048576: true; the input reads as it did. -/
def identifyPlacesUptoRow : OpenClaim := { program := "ytihhljodjndbeaa", sum := "6f1a615f519a67406731cace74f22d65808a93135161209a05436b085f9e31e6", func := "bitcast/bitcastlaw10.IdentifyPlaces", spec := "identifyPlaces", unfollowed := true, recurses := true, apart := false, narrowed := true }
def IdentifyPlacesUptoSaid : Prop := identifyPlacesUptoRow.holds Try.pinned (OpenSpec.upto identifyPlacesSpec)

/-- 'bitcastlaw10.IdentifyChecks', WHERE WHAT IT READS IS OF BULK AT MOST 1048576: true; the input reads as it did. -/
def identifyChecksUptoRow : OpenClaim := { program := "ytihhljodjndbeaa", sum := "6f1a615f519a67406731cace74f22d65808a93135161209a05436b085f9e31e6", func := "bitcast/bitcastlaw10.IdentifyChecks", spec := "identifyChecks", unfollowed := true, recurses := true, apart := false, narrowed := true }
def IdentifyChecksUptoSaid : Prop := identifyChecksUptoRow.holds Try.pinned (OpenSpec.upto identifyChecksSpec)

/-- 'bitcastlaw10.IdentifySettles', WHERE WHAT IT READS IS OF BULK AT MOST 1048576: true; the input reads as it did. -/
def identifySettlesUptoRow : OpenClaim := { program := "ytihhljodjndbeaa", sum := "6f1a615f519a67406731cace74f22d65808a93135161209a05436b085f9e31e6", func := "bitcast/bitcastlaw10.IdentifySettles", spec := "identifySettles", unfollowed := true, recurses := true, apart := false, narrowed := true }
def IdentifySettlesUptoSaid : Prop := identifySettlesUptoRow.holds Try.pinned (OpenSpec.upto identifySettlesSpec)

/-- 'bitcastlaw10.IdentifyCounts', WHERE WHAT IT READS IS OF BULK AT MOST 1048576: true; the input reads as it did. -/
def identifyCountsUptoRow : OpenClaim := { program := "ytihhljodjndbeaa", sum := "6f1a615f519a67406731cace74f22d65808a93135161209a05436b085f9e31e6", func := "bitcast/bitcastlaw10.IdentifyCounts", spec := "identifyCounts", unfollowed := true, recurses := true, apart := false, narrowed := true }
def IdentifyCountsUptoSaid : Prop := identifyCountsUptoRow.holds Try.pinned (OpenSpec.upto identifyCountsSpec)

/-- 'bitcastlaw10.IdentifyPlans', WHERE WHAT IT READS IS OF BULK AT MOST 1048576: true; the input reads as it did. -/
def identifyPlansUptoRow : OpenClaim := { program := "ytihhljodjndbeaa", sum := "6f1a615f519a67406731cace74f22d65808a93135161209a05436b085f9e31e6", func := "bitcast/bitcastlaw10.IdentifyPlans", spec := "identifyPlans", unfollowed := true, recurses := true, apart := false, narrowed := true }
def IdentifyPlansUptoSaid : Prop := identifyPlansUptoRow.holds Try.pinned (OpenSpec.upto identifyPlansSpec)

end Rows
end Go.Proofs.Ytihhljodjndbeaa
