/-
  No cell of these rows narrows 'for every input' (looked for: loops, veiled, ifaces, maps, wideKeys, modest, calm, conditions, laid).
  DERIVED. THE GIVEN ROWS OF THIS SEAT. 4 by the template 'for every input the law returns true; each argument reads behind the call as it read before'; 0 by the template 'total and deterministic' (their statements: YtkonipbnnpcbmaaTotals.lean).
  GIVEN WITH THE SEED: the statements are not yours to turn. If you find one false, say at which input.
  Laid BY PROGRAM, IN A SANDBOX (cutbox-rows.mjs): the forced cells as the released guide's own fill.sh prints them over the translation 38843f5afc9b113c… (all of the seat's roots in one cut). By AI agents, Wed Nov 11 2026. No macro, syntax, notation, axiom, sorry.
-/
import Derived.Test.YtkonipbnnpcbmaaChecked
import GoSem.Claim
import GoSem.ClaimJoined
import GoSem.ClaimMapViews
import Derived.JoinedTies
import Derived.KernelRfl
namespace Go.Proofs.Ytkonipbnnpcbmaa
/- THE CELL 'sum', in the pinned program and in every row, IS THE sha256 OF THE DUMP (.gsa) THAT YtkonipbnnpcbmaaProg.lean LOADS. Nothing in Lean hashes anything: it is a label: what it is worth is what the hold of that sum in a sandbox is worth. -/
noncomputable def Try.pinned : Pinned := { name := "ytkonipbnnpcbmaa", sum := "38843f5afc9b113cf6f21401d2b2514850013b5f472990a4249b675cae03e853", checked := Try.checked }
namespace Rows
def none {H : Type} : Left H := { results := [], args := [] }

/-- 'bitcastlaw37.CountPath': WHATEVER THE INPUT: true; the input reads as it did. -/
def countPathSpec : ChangeSpec := { name := "countPath", fn := fun _ => fun
  | [d] => { results := [.lit (.bool true)], args := [d] }
  | _ => none }
def countPathRow : OpenClaim := { program := "ytkonipbnnpcbmaa", sum := "38843f5afc9b113cf6f21401d2b2514850013b5f472990a4249b675cae03e853", func := "bitcast/bitcastlaw37.CountPath", spec := "countPath", apart := false }
def CountPathSaid : Prop := countPathRow.holds Try.pinned (OpenSpec.ofChange countPathSpec)

/-- ITS FALSE NEIGHBOUR: 'it returns false'. Refute it at one input. -/
def countPathWrong : ChangeSpec := { name := "countPath", fn := fun _ => fun
  | [d] => { results := [.lit (.bool false)], args := [d] }
  | _ => none }
def CountPathWrongFalsely : Prop := countPathRow.holds Try.pinned (OpenSpec.ofChange countPathWrong)

/-- 'bitcastlaw37.CountAll': WHATEVER THE INPUT: true; the input reads as it did. -/
def countAllSpec : ChangeSpec := { name := "countAll", fn := fun _ => fun
  | [d1, d2] => { results := [.lit (.bool true)], args := [d1, d2] }
  | _ => none }
def countAllRow : OpenClaim := { program := "ytkonipbnnpcbmaa", sum := "38843f5afc9b113cf6f21401d2b2514850013b5f472990a4249b675cae03e853", func := "bitcast/bitcastlaw37.CountAll", spec := "countAll", apart := false }
def CountAllSaid : Prop := countAllRow.holds Try.pinned (OpenSpec.ofChange countAllSpec)

/-- ITS FALSE NEIGHBOUR: 'it returns false'. Refute it at one input. -/
def countAllWrong : ChangeSpec := { name := "countAll", fn := fun _ => fun
  | [d1, d2] => { results := [.lit (.bool false)], args := [d1, d2] }
  | _ => none }
def CountAllWrongFalsely : Prop := countAllRow.holds Try.pinned (OpenSpec.ofChange countAllWrong)

/-- 'bitcastlaw37.CountDelays': WHATEVER THE INPUT: true; the input reads as it did. -/
def countDelaysSpec : ChangeSpec := { name := "countDelays", fn := fun _ => fun
  | [d] => { results := [.lit (.bool true)], args := [d] }
  | _ => none }
def countDelaysRow : OpenClaim := { program := "ytkonipbnnpcbmaa", sum := "38843f5afc9b113cf6f21401d2b2514850013b5f472990a4249b675cae03e853", func := "bitcast/bitcastlaw37.CountDelays", spec := "countDelays", apart := false }
def CountDelaysSaid : Prop := countDelaysRow.holds Try.pinned (OpenSpec.ofChange countDelaysSpec)

/-- ITS FALSE NEIGHBOUR: 'it returns false'. Refute it at one input. -/
def countDelaysWrong : ChangeSpec := { name := "countDelays", fn := fun _ => fun
  | [d] => { results := [.lit (.bool false)], args := [d] }
  | _ => none }
def CountDelaysWrongFalsely : Prop := countDelaysRow.holds Try.pinned (OpenSpec.ofChange countDelaysWrong)

/-- 'bitcastlaw37.CountAnswers': WHATEVER THE INPUT: true; the input reads as it did. -/
def countAnswersSpec : ChangeSpec := { name := "countAnswers", fn := fun _ => fun
  | [d1, d2, d3, d4, d5, d6] => { results := [.lit (.bool true)], args := [d1, d2, d3, d4, d5, d6] }
  | _ => none }
def countAnswersRow : OpenClaim := { program := "ytkonipbnnpcbmaa", sum := "38843f5afc9b113cf6f21401d2b2514850013b5f472990a4249b675cae03e853", func := "bitcast/bitcastlaw37.CountAnswers", spec := "countAnswers", apart := false }
def CountAnswersSaid : Prop := countAnswersRow.holds Try.pinned (OpenSpec.ofChange countAnswersSpec)

/-- ITS FALSE NEIGHBOUR: 'it returns false'. Refute it at one input. -/
def countAnswersWrong : ChangeSpec := { name := "countAnswers", fn := fun _ => fun
  | [d1, d2, d3, d4, d5, d6] => { results := [.lit (.bool false)], args := [d1, d2, d3, d4, d5, d6] }
  | _ => none }
def CountAnswersWrongFalsely : Prop := countAnswersRow.holds Try.pinned (OpenSpec.ofChange countAnswersWrong)

/- THE SECOND FORM. 'bulk': how many values and letters a reading holds, each counted each time it is reached (what is shared counts as often as it is met; a slice's spare places count too). A statement '..UptoSaid' is the law's where the arguments, and the package variables that the reading takes, are together of bulk at most 1048576: NARROWER than '..Said'. Prove '..Said' where nothing that the law and all that it calls make is longer than what came in: it says more and counts as full. Else prove '..UptoSaid'. A law counts once. -/
mutual
def uptoBulk {H : Type} : DataW H → Nat
  | .lit (.string bytes) => bytes.length + 1
  | .lit _ => 1
  | .nil => 1
  | .ptr d => uptoBulk d + 1
  | .slice elems spare => uptoBulkAll elems + uptoBulkAll spare + 1
  | .agg parts => uptoBulkAll parts + 1
  | .iface _ d => uptoBulk d + 1
  | .map entries => uptoBulkEntries entries + 1
  | .held _ => 1
def uptoBulkAll {H : Type} : List (DataW H) → Nat
  | [] => 0
  | d :: r => uptoBulk d + uptoBulkAll r
def uptoBulkEntries {H : Type} : List (Lit × DataW H) → Nat
  | [] => 0
  | x :: r => uptoBulkEntry x + uptoBulkEntries r
def uptoBulkEntry {H : Type} : Lit × DataW H → Nat
  | (.string bytes, d) => bytes.length + uptoBulk d + 1
  | (_, d) => uptoBulk d + 1
 end
def uptoSmall : (H : Type) → List (DataW H) → Bool := fun _ ds => decide (uptoBulkAll ds ≤ 1048576)
def OpenSpec.upto (s : _root_.Go.ChangeSpec) : _root_.Go.OpenSpec := { _root_.Go.OpenSpec.ofChange s with cond := some uptoSmall }

/-- 'bitcastlaw37.CountPath', WHERE WHAT IT READS IS OF BULK AT MOST 1048576: true; the input reads as it did. -/
def countPathUptoRow : OpenClaim := { program := "ytkonipbnnpcbmaa", sum := "38843f5afc9b113cf6f21401d2b2514850013b5f472990a4249b675cae03e853", func := "bitcast/bitcastlaw37.CountPath", spec := "countPath", apart := false, narrowed := true }
def CountPathUptoSaid : Prop := countPathUptoRow.holds Try.pinned (OpenSpec.upto countPathSpec)

/-- 'bitcastlaw37.CountAll', WHERE WHAT IT READS IS OF BULK AT MOST 1048576: true; the input reads as it did. -/
def countAllUptoRow : OpenClaim := { program := "ytkonipbnnpcbmaa", sum := "38843f5afc9b113cf6f21401d2b2514850013b5f472990a4249b675cae03e853", func := "bitcast/bitcastlaw37.CountAll", spec := "countAll", apart := false, narrowed := true }
def CountAllUptoSaid : Prop := countAllUptoRow.holds Try.pinned (OpenSpec.upto countAllSpec)

/-- 'bitcastlaw37.CountDelays', WHERE WHAT IT READS IS OF BULK AT MOST 1048576: true; the input reads as it did. -/
def countDelaysUptoRow : OpenClaim := { program := "ytkonipbnnpcbmaa", sum := "38843f5afc9b113cf6f21401d2b2514850013b5f472990a4249b675cae03e853", func := "bitcast/bitcastlaw37.CountDelays", spec := "countDelays", apart := false, narrowed := true }
def CountDelaysUptoSaid : Prop := countDelaysUptoRow.holds Try.pinned (OpenSpec.upto countDelaysSpec)

/-- 'bitcastlaw37.CountAnswers', WHERE WHAT IT READS IS OF BULK AT MOST 1048576: true; the input reads as it did. -/
def countAnswersUptoRow : OpenClaim := { program := "ytkonipbnnpcbmaa", sum := "38843f5afc9b113cf6f21401d2b2514850013b5f472990a4249b675cae03e853", func := "bitcast/bitcastlaw37.CountAnswers", spec := "countAnswers", apart := false, narrowed := true }
def CountAnswersUptoSaid : Prop := countAnswersUptoRow.holds Try.pinned (OpenSpec.upto countAnswersSpec)

end Rows
end Go.Proofs.Ytkonipbnnpcbmaa
