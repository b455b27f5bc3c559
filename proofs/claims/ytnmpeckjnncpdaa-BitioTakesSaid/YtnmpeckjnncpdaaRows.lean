/-
  No cell of these rows narrows 'for every input' (looked for: loops, veiled, ifaces, maps, wideKeys, modest, calm, conditions, laid).
  DERIVED. THE GIVEN ROWS OF THIS SEAT. 8 by the template 'for every input the law returns true; each argument reads behind the call as it read before'; 0 by the template 'total and deterministic' (their statements: YtnmpeckjnncpdaaTotals.lean).
  GIVEN WITH THE SEED: the statements are not yours to turn. If you find one false, say at which input.
  Laid BY PROGRAM, IN A SANDBOX (cutbox-rows.mjs): the forced cells as the released guide's own fill.sh prints them over the translation 1f33bb98c729fc23… (all of the seat's roots in one cut). By AI agents, Wed Nov 11 2026. No macro, syntax, notation, axiom, sorry.
-/
import Derived.Test.YtnmpeckjnncpdaaChecked
import GoSem.Claim
import GoSem.ClaimJoined
import GoSem.ClaimMapViews
import Derived.JoinedTies
import Derived.KernelRfl
namespace Go.Proofs.Ytnmpeckjnncpdaa
/- THE CELL 'sum', in the pinned program and in every row, IS THE sha256 OF THE DUMP (.gsa) THAT YtnmpeckjnncpdaaProg.lean LOADS. Nothing in Lean hashes anything: it is a label: what it is worth is what the hold of that sum in a sandbox is worth. -/
noncomputable def Try.pinned : Pinned := { name := "ytnmpeckjnncpdaa", sum := "1f33bb98c729fc23283c156ec9f51fece85d2e2c5c892307c03c4ed1e3f5f7bb", checked := Try.checked }
namespace Rows
def none {H : Type} : Left H := { results := [], args := [] }

/-- 'bitcastlaw02.BitioValid': WHATEVER THE INPUT: true; the input reads as it did. -/
def bitioValidSpec : ChangeSpec := { name := "bitioValid", fn := fun _ => fun
  | [d1, d2] => { results := [.lit (.bool true)], args := [d1, d2] }
  | _ => none }
def bitioValidRow : OpenClaim := { program := "ytnmpeckjnncpdaa", sum := "1f33bb98c729fc23283c156ec9f51fece85d2e2c5c892307c03c4ed1e3f5f7bb", func := "bitcast/bitcastlaw02.BitioValid", spec := "bitioValid", apart := false }
def BitioValidSaid : Prop := bitioValidRow.holds Try.pinned (OpenSpec.ofChange bitioValidSpec)

/-- ITS FALSE NEIGHBOUR: 'it returns false'. Refute it at one input. -/
def bitioValidWrong : ChangeSpec := { name := "bitioValid", fn := fun _ => fun
  | [d1, d2] => { results := [.lit (.bool false)], args := [d1, d2] }
  | _ => none }
def BitioValidWrongFalsely : Prop := bitioValidRow.holds Try.pinned (OpenSpec.ofChange bitioValidWrong)

/-- 'bitcastlaw02.BitioAppends': WHATEVER THE INPUT: true; the input reads as it did. -/
def bitioAppendsSpec : ChangeSpec := { name := "bitioAppends", fn := fun _ => fun
  | [d1, d2, d3] => { results := [.lit (.bool true)], args := [d1, d2, d3] }
  | _ => none }
def bitioAppendsRow : OpenClaim := { program := "ytnmpeckjnncpdaa", sum := "1f33bb98c729fc23283c156ec9f51fece85d2e2c5c892307c03c4ed1e3f5f7bb", func := "bitcast/bitcastlaw02.BitioAppends", spec := "bitioAppends", apart := false }
def BitioAppendsSaid : Prop := bitioAppendsRow.holds Try.pinned (OpenSpec.ofChange bitioAppendsSpec)

/-- ITS FALSE NEIGHBOUR: 'it returns false'. Refute it at one input. -/
def bitioAppendsWrong : ChangeSpec := { name := "bitioAppends", fn := fun _ => fun
  | [d1, d2, d3] => { results := [.lit (.bool false)], args := [d1, d2, d3] }
  | _ => none }
def BitioAppendsWrongFalsely : Prop := bitioAppendsRow.holds Try.pinned (OpenSpec.ofChange bitioAppendsWrong)

/-- 'bitcastlaw02.BitioChecks': WHATEVER THE INPUT: true; the input reads as it did. -/
def bitioChecksSpec : ChangeSpec := { name := "bitioChecks", fn := fun _ => fun
  | [d1, d2] => { results := [.lit (.bool true)], args := [d1, d2] }
  | _ => none }
def bitioChecksRow : OpenClaim := { program := "ytnmpeckjnncpdaa", sum := "1f33bb98c729fc23283c156ec9f51fece85d2e2c5c892307c03c4ed1e3f5f7bb", func := "bitcast/bitcastlaw02.BitioChecks", spec := "bitioChecks", apart := false }
def BitioChecksSaid : Prop := bitioChecksRow.holds Try.pinned (OpenSpec.ofChange bitioChecksSpec)

/-- ITS FALSE NEIGHBOUR: 'it returns false'. Refute it at one input. -/
def bitioChecksWrong : ChangeSpec := { name := "bitioChecks", fn := fun _ => fun
  | [d1, d2] => { results := [.lit (.bool false)], args := [d1, d2] }
  | _ => none }
def BitioChecksWrongFalsely : Prop := bitioChecksRow.holds Try.pinned (OpenSpec.ofChange bitioChecksWrong)

/-- 'bitcastlaw02.BitioBursts': WHATEVER THE INPUT: true; the input reads as it did. -/
def bitioBurstsSpec : ChangeSpec := { name := "bitioBursts", fn := fun _ => fun
  | [d] => { results := [.lit (.bool true)], args := [d] }
  | _ => none }
def bitioBurstsRow : OpenClaim := { program := "ytnmpeckjnncpdaa", sum := "1f33bb98c729fc23283c156ec9f51fece85d2e2c5c892307c03c4ed1e3f5f7bb", func := "bitcast/bitcastlaw02.BitioBursts", spec := "bitioBursts", apart := false }
def BitioBurstsSaid : Prop := bitioBurstsRow.holds Try.pinned (OpenSpec.ofChange bitioBurstsSpec)

/-- ITS FALSE NEIGHBOUR: 'it returns false'. Refute it at one input. -/
def bitioBurstsWrong : ChangeSpec := { name := "bitioBursts", fn := fun _ => fun
  | [d] => { results := [.lit (.bool false)], args := [d] }
  | _ => none }
def BitioBurstsWrongFalsely : Prop := bitioBurstsRow.holds Try.pinned (OpenSpec.ofChange bitioBurstsWrong)

/-- 'bitcastlaw02.BitioBack': WHATEVER THE INPUT: true; the input reads as it did. -/
def bitioBackSpec : ChangeSpec := { name := "bitioBack", fn := fun _ => fun
  | [d] => { results := [.lit (.bool true)], args := [d] }
  | _ => none }
def bitioBackRow : OpenClaim := { program := "ytnmpeckjnncpdaa", sum := "1f33bb98c729fc23283c156ec9f51fece85d2e2c5c892307c03c4ed1e3f5f7bb", func := "bitcast/bitcastlaw02.BitioBack", spec := "bitioBack", apart := false }
def BitioBackSaid : Prop := bitioBackRow.holds Try.pinned (OpenSpec.ofChange bitioBackSpec)

/-- ITS FALSE NEIGHBOUR: 'it returns false'. Refute it at one input. -/
def bitioBackWrong : ChangeSpec := { name := "bitioBack", fn := fun _ => fun
  | [d] => { results := [.lit (.bool false)], args := [d] }
  | _ => none }
def BitioBackWrongFalsely : Prop := bitioBackRow.holds Try.pinned (OpenSpec.ofChange bitioBackWrong)

/-- 'bitcastlaw02.BitioLong': WHATEVER THE INPUT: true; the input reads as it did. -/
def bitioLongSpec : ChangeSpec := { name := "bitioLong", fn := fun _ => fun
  | [d1, d2] => { results := [.lit (.bool true)], args := [d1, d2] }
  | _ => none }
def bitioLongRow : OpenClaim := { program := "ytnmpeckjnncpdaa", sum := "1f33bb98c729fc23283c156ec9f51fece85d2e2c5c892307c03c4ed1e3f5f7bb", func := "bitcast/bitcastlaw02.BitioLong", spec := "bitioLong", apart := false }
def BitioLongSaid : Prop := bitioLongRow.holds Try.pinned (OpenSpec.ofChange bitioLongSpec)

/-- ITS FALSE NEIGHBOUR: 'it returns false'. Refute it at one input. -/
def bitioLongWrong : ChangeSpec := { name := "bitioLong", fn := fun _ => fun
  | [d1, d2] => { results := [.lit (.bool false)], args := [d1, d2] }
  | _ => none }
def BitioLongWrongFalsely : Prop := bitioLongRow.holds Try.pinned (OpenSpec.ofChange bitioLongWrong)

/-- 'bitcastlaw02.BitioJoins': WHATEVER THE INPUT: true; the input reads as it did. -/
def bitioJoinsSpec : ChangeSpec := { name := "bitioJoins", fn := fun _ => fun
  | [d] => { results := [.lit (.bool true)], args := [d] }
  | _ => none }
def bitioJoinsRow : OpenClaim := { program := "ytnmpeckjnncpdaa", sum := "1f33bb98c729fc23283c156ec9f51fece85d2e2c5c892307c03c4ed1e3f5f7bb", func := "bitcast/bitcastlaw02.BitioJoins", spec := "bitioJoins", apart := false }
def BitioJoinsSaid : Prop := bitioJoinsRow.holds Try.pinned (OpenSpec.ofChange bitioJoinsSpec)

/-- ITS FALSE NEIGHBOUR: 'it returns false'. Refute it at one input. -/
def bitioJoinsWrong : ChangeSpec := { name := "bitioJoins", fn := fun _ => fun
  | [d] => { results := [.lit (.bool false)], args := [d] }
  | _ => none }
def BitioJoinsWrongFalsely : Prop := bitioJoinsRow.holds Try.pinned (OpenSpec.ofChange bitioJoinsWrong)

/-- 'bitcastlaw02.BitioTakes': WHATEVER THE INPUT: true; the input reads as it did. -/
def bitioTakesSpec : ChangeSpec := { name := "bitioTakes", fn := fun _ => fun
  | [d1, d2, d3] => { results := [.lit (.bool true)], args := [d1, d2, d3] }
  | _ => none }
def bitioTakesRow : OpenClaim := { program := "ytnmpeckjnncpdaa", sum := "1f33bb98c729fc23283c156ec9f51fece85d2e2c5c892307c03c4ed1e3f5f7bb", func := "bitcast/bitcastlaw02.BitioTakes", spec := "bitioTakes", apart := false }
def BitioTakesSaid : Prop := bitioTakesRow.holds Try.pinned (OpenSpec.ofChange bitioTakesSpec)

/-- ITS FALSE NEIGHBOUR: 'it returns false'. Refute it at one input. -/
def bitioTakesWrong : ChangeSpec := { name := "bitioTakes", fn := fun _ => fun
  | [d1, d2, d3] => { results := [.lit (.bool false)], args := [d1, d2, d3] }
  | _ => none }
def BitioTakesWrongFalsely : Prop := bitioTakesRow.holds Try.pinned (OpenSpec.ofChange bitioTakesWrong)

/- THE SECOND FORM. 'bulk': how many values and letters a reading holds, each counted each time it is reached (what is shared counts as often as it is met; a slice's spare places count too). A statement '..UptoSaid' is the law's where the arguments, and the package variables that the reading takes, are together of bulk at most 1048576: NARROWER than '..Said'. Prove '..Said' where nothing that the law and all that it calls make is longer than what came in: it says more and counts as full. Else prove '..UptoSaid'. A law counts once. -/
mutual
def uptoBulk {H : Type} : DataW H → Nat
  | .lit (.string bytes) => bytes.length + 1
  | .lit _ => 1
  | .nil => 1
  | .ptr d => uptoBulk d + 1
  | .slice elems spare => uptoBulkAll elems + uptoBulkAll spare + 1
  | .agg parts => uptoBulkAll parts + 1
  | .iface _ d => uptoBulk d + 1
  | .map entries => uptoBulkEntries entries + 1
  | .held _ => 1
def uptoBulkAll {H : Type} : List (DataW H) → Nat
  | [] => 0
  | d :: r => uptoBulk d + uptoBulkAll r
def uptoBulkEntries {H : Type} : List (Lit × DataW H) → Nat
  | [] => 0
  | x :: r => uptoBulkEntry x + uptoBulkEntries r
def uptoBulkEntry {H : Type} : Lit × DataW H → Nat
  | (.string bytes, d) => bytes.length + uptoBulk d + 1
  | (_, d) => uptoBulk d + 1
 end
def uptoSmall : (H : Type) → List (DataW H) → Bool := fun _ ds => decide (uptoBulkAll ds ≤ 1048576)
def OpenSpec.upto (s : _root_.Go.ChangeSpec) : _root_.Go.OpenSpec := { _root_.Go.OpenSpec.ofChange s with cond := some uptoSmall }

/-- 'bitcastlaw02.BitioValid', WHERE WHAT IT READS IS OF BULK AT MOST 1048576: true; the input reads as it did. -/
def bitioValidUptoRow : OpenClaim := { program := "ytnmpeckjnncpdaa", sum := "1f33bb98c729fc23283c156ec9f51fece85d2e2c5c892307c03c4ed1e3f5f7bb", func := "bitcast/bitcastlaw02.BitioValid", spec := "bitioValid", apart := false, narrowed := true }
def BitioValidUptoSaid : Prop := bitioValidUptoRow.holds Try.pinned (OpenSpec.upto bitioValidSpec)

/-- 'bitcastlaw02.BitioAppends', WHERE WHAT IT READS IS OF BULK AT MOST 1048576: true; the input reads as it did. -/
def bitioAppendsUptoRow : OpenClaim := { program := "ytnmpeckjnncpdaa", sum := "1f33bb98c729fc23283c156ec9f51fece85d2e2c5c892307c03c4ed1e3f5f7bb", func := "bitcast/bitcastlaw02.BitioAppends", spec := "bitioAppends", apart := false, narrowed := true }
def BitioAppendsUptoSaid : Prop := bitioAppendsUptoRow.holds Try.pinned (OpenSpec.upto bitioAppendsSpec)

/-- 'bitcastlaw02.BitioChecks', WHERE WHAT IT READS IS OF BULK AT MOST 1048576: true; the input reads as it did. -/
def bitioChecksUptoRow : OpenClaim := { program := "ytnmpeckjnncpdaa", sum := "1f33bb98c729fc23283c156ec9f51fece85d2e2c5c892307c03c4ed1e3f5f7bb", func := "bitcast/bitcastlaw02.BitioChecks", spec := "bitioChecks", apart := false, narrowed := true }
def BitioChecksUptoSaid : Prop := bitioChecksUptoRow.holds Try.pinned (OpenSpec.upto bitioChecksSpec)

/-- 'bitcastlaw02.BitioBursts', WHERE WHAT IT READS IS OF BULK AT MOST 1048576: true; the input reads as it did. -/
def bitioBurstsUptoRow : OpenClaim := { program := "ytnmpeckjnncpdaa", sum := "1f33bb98c729fc23283c156ec9f51fece85d2e2c5c892307c03c4ed1e3f5f7bb", func := "bitcast/bitcastlaw02.BitioBursts", spec := "bitioBursts", apart := false, narrowed := true }
def BitioBurstsUptoSaid : Prop := bitioBurstsUptoRow.holds Try.pinned (OpenSpec.upto bitioBurstsSpec)

/-- 'bitcastlaw02.BitioBack', WHERE WHAT IT READS IS OF BULK AT MOST 1048576: true; the input reads as it did. -/
def bitioBackUptoRow : OpenClaim := { program := "ytnmpeckjnncpdaa", sum := "1f33bb98c729fc23283c156ec9f51fece85d2e2c5c892307c03c4ed1e3f5f7bb", func := "bitcast/bitcastlaw02.BitioBack", spec := "bitioBack", apart := false, narrowed := true }
def BitioBackUptoSaid : Prop := bitioBackUptoRow.holds Try.pinned (OpenSpec.upto bitioBackSpec)

/-- 'bitcastlaw02.BitioLong', WHERE WHAT IT READS IS OF BULK AT MOST 1048576: true; the input reads as it did. -/
def bitioLongUptoRow : OpenClaim := { program := "ytnmpeckjnncpdaa", sum := "1f33bb98c729fc23283c156ec9f51fece85d2e2c5c892307c03c4ed1e3f5f7bb", func := "bitcast/bitcastlaw02.BitioLong", spec := "bitioLong", apart := false, narrowed := true }
def BitioLongUptoSaid : Prop := bitioLongUptoRow.holds Try.pinned (OpenSpec.upto bitioLongSpec)

/-- 'bitcastlaw02.BitioJoins', WHERE WHAT IT READS IS OF BULK AT MOST 1048576: true; the input reads as it did. -/
def bitioJoinsUptoRow : OpenClaim := { program := "ytnmpeckjnncpdaa", sum := "1f33bb98c729fc23283c156ec9f51fece85d2e2c5c892307c03c4ed1e3f5f7bb", func := "bitcast/bitcastlaw02.BitioJoins", spec := "bitioJoins", apart := false, narrowed := true }
def BitioJoinsUptoSaid : Prop := bitioJoinsUptoRow.holds Try.pinned (OpenSpec.upto bitioJoinsSpec)

/-- 'bitcastlaw02.BitioTakes', WHERE WHAT IT READS IS OF BULK AT MOST 1048576: true; the input reads as it did. -/
def bitioTakesUptoRow : OpenClaim := { program := "ytnmpeckjnncpdaa", sum := "1f33bb98c729fc23283c156ec9f51fece85d2e2c5c892307c03c4ed1e3f5f7bb", func := "bitcast/bitcastlaw02.BitioTakes", spec := "bitioTakes", apart := false, narrowed := true }
def BitioTakesUptoSaid : Prop := bitioTakesUptoRow.holds Try.pinned (OpenSpec.upto bitioTakesSpec)

end Rows
end Go.Proofs.Ytnmpeckjnncpdaa
