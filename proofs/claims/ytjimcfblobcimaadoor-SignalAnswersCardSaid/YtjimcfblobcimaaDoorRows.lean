/-
  NARROWER THAN 'FOR EVERY INPUT', by the rows' own cells (each row's printed sentence says how): SignalDecodes: laid · SignalBack: laid · SignalDamage: laid · SignalAnswers: laid.
  DERIVED. THE GIVEN ROWS OF THIS SEAT. 4 by the template 'for every input the law returns true; each argument reads behind the call as it read before'; 0 by the template 'total and deterministic' (their statements: YtjimcfblobcimaaDoorTotals.lean).
  GIVEN WITH THE SEED: the statements are not yours to turn. If you find one false, say at which input.
  Laid BY PROGRAM, IN A SANDBOX (cutbox-rows.mjs): the forced cells as the released guide's own fill.sh prints them over the translation e1978a5e409aae16… (all of the seat's roots in one cut). By AI agents, Wed Nov 11 2026. No macro, syntax, notation, axiom, sorry.
-/
import Derived.Test.YtjimcfblobcimaaDoorChecked
import GoSem.Claim
import GoSem.ClaimJoined
import GoSem.ClaimMapViews
import Derived.JoinedTies
import Derived.KernelRfl
namespace Go.Proofs.YtjimcfblobcimaaDoor
/- THE CELL 'sum', in the pinned program and in every row, IS THE sha256 OF THE DUMP (.gsa) THAT YtjimcfblobcimaaDoorProg.lean LOADS. Nothing in Lean hashes anything: it is a label: what it is worth is what the hold of that sum in a sandbox is worth. -/
noncomputable def Tryd.pinned : Pinned := { name := "ytjimcfblobcimaadoor", sum := "e1978a5e409aae16375423d1315cd12e42d544c4353bb286cb0c338c2cfa0c21", checked := Tryd.checked }
namespace Rows
def none {H : Type} : Left H := { results := [], args := [] }

/- WHAT THE LISTED PACKAGE-LEVEL VARIABLES READ AS WHEN THE CALL BEGINS. Each datum BY PROGRAM (the guide's laid-datum.mjs) off the statement by which the dump's own 'gosem.cut.vars' lays the variable. In a bare row this is a premise. The card (YtjimcfblobcimaaDoorCards.lean) ties it to the program's text. -/
def laid_bitcast_signal_zero {H : Type} : DataW H := .agg [.lit (.int .i64 0), .lit (.int .i64 0)]
def laid_bitcast_signal_number {H : Type} : DataW H := .agg [.lit (.int .i64 0), .lit (.int .i64 1000000)]
def laid_bitcast_signal_first {H : Type} : DataW H := .agg [.lit (.int .i64 1), .lit (.int .i64 1000000)]
def laid_bitcast_signal_group {H : Type} : DataW H := .agg [.lit (.int .i64 1), .lit (.int .i64 99)]

/-- 'bitcastlaw25.SignalDecodes': WHATEVER THE INPUT: true; the input reads as it did. -/
def signalDecodesSpec : ChangeSpec := { name := "signalDecodes", fn := fun _ => fun
  | [d1, d2, d3, d4] => { results := [.lit (.bool true)], args := [d1, d2, d3, d4] }
  | _ => none }
def signalDecodesRow : OpenClaim := { program := "ytjimcfblobcimaadoor", sum := "e1978a5e409aae16375423d1315cd12e42d544c4353bb286cb0c338c2cfa0c21", func := "bitcast/bitcastlaw25.SignalDecodes", spec := "signalDecodes", named := ["bitcast/signal.first", "bitcast/signal.number", "bitcast/signal.zero", "bitcast/signal.group"], apart := false, laid := [("bitcast/signal.zero", laid_bitcast_signal_zero), ("bitcast/signal.number", laid_bitcast_signal_number), ("bitcast/signal.first", laid_bitcast_signal_first), ("bitcast/signal.group", laid_bitcast_signal_group)] }
def SignalDecodesSaid : Prop := signalDecodesRow.holds Tryd.pinned (OpenSpec.ofChange signalDecodesSpec)

/-- ITS FALSE NEIGHBOUR: 'it returns false'. Refute it at one input. -/
def signalDecodesWrong : ChangeSpec := { name := "signalDecodes", fn := fun _ => fun
  | [d1, d2, d3, d4] => { results := [.lit (.bool false)], args := [d1, d2, d3, d4] }
  | _ => none }
def SignalDecodesWrongFalsely : Prop := signalDecodesRow.holds Tryd.pinned (OpenSpec.ofChange signalDecodesWrong)

/-- 'bitcastlaw25.SignalBack': WHATEVER THE INPUT: true; the input reads as it did. -/
def signalBackSpec : ChangeSpec := { name := "signalBack", fn := fun _ => fun
  | [d] => { results := [.lit (.bool true)], args := [d] }
  | _ => none }
def signalBackRow : OpenClaim := { program := "ytjimcfblobcimaadoor", sum := "e1978a5e409aae16375423d1315cd12e42d544c4353bb286cb0c338c2cfa0c21", func := "bitcast/bitcastlaw25.SignalBack", spec := "signalBack", named := ["bitcast/signal.first", "bitcast/signal.number", "bitcast/signal.zero", "bitcast/signal.group"], apart := false, laid := [("bitcast/signal.zero", laid_bitcast_signal_zero), ("bitcast/signal.number", laid_bitcast_signal_number), ("bitcast/signal.first", laid_bitcast_signal_first), ("bitcast/signal.group", laid_bitcast_signal_group)] }
def SignalBackSaid : Prop := signalBackRow.holds Tryd.pinned (OpenSpec.ofChange signalBackSpec)

/-- ITS FALSE NEIGHBOUR: 'it returns false'. Refute it at one input. -/
def signalBackWrong : ChangeSpec := { name := "signalBack", fn := fun _ => fun
  | [d] => { results := [.lit (.bool false)], args := [d] }
  | _ => none }
def SignalBackWrongFalsely : Prop := signalBackRow.holds Tryd.pinned (OpenSpec.ofChange signalBackWrong)

/-- 'bitcastlaw25.SignalDamage': WHATEVER THE INPUT: true; the input reads as it did. -/
def signalDamageSpec : ChangeSpec := { name := "signalDamage", fn := fun _ => fun
  | [d1, d2, d3] => { results := [.lit (.bool true)], args := [d1, d2, d3] }
  | _ => none }
def signalDamageRow : OpenClaim := { program := "ytjimcfblobcimaadoor", sum := "e1978a5e409aae16375423d1315cd12e42d544c4353bb286cb0c338c2cfa0c21", func := "bitcast/bitcastlaw25.SignalDamage", spec := "signalDamage", named := ["bitcast/signal.first", "bitcast/signal.number", "bitcast/signal.zero", "bitcast/signal.group"], apart := false, laid := [("bitcast/signal.zero", laid_bitcast_signal_zero), ("bitcast/signal.number", laid_bitcast_signal_number), ("bitcast/signal.first", laid_bitcast_signal_first), ("bitcast/signal.group", laid_bitcast_signal_group)] }
def SignalDamageSaid : Prop := signalDamageRow.holds Tryd.pinned (OpenSpec.ofChange signalDamageSpec)

/-- ITS FALSE NEIGHBOUR: 'it returns false'. Refute it at one input. -/
def signalDamageWrong : ChangeSpec := { name := "signalDamage", fn := fun _ => fun
  | [d1, d2, d3] => { results := [.lit (.bool false)], args := [d1, d2, d3] }
  | _ => none }
def SignalDamageWrongFalsely : Prop := signalDamageRow.holds Tryd.pinned (OpenSpec.ofChange signalDamageWrong)

/-- 'bitcastlaw25.SignalAnswers': WHATEVER THE INPUT: true; the input reads as it did. -/
def signalAnswersSpec : ChangeSpec := { name := "signalAnswers", fn := fun _ => fun
  | [d1, d2] => { results := [.lit (.bool true)], args := [d1, d2] }
  | _ => none }
def signalAnswersRow : OpenClaim := { program := "ytjimcfblobcimaadoor", sum := "e1978a5e409aae16375423d1315cd12e42d544c4353bb286cb0c338c2cfa0c21", func := "bitcast/bitcastlaw25.SignalAnswers", spec := "signalAnswers", named := ["bitcast/signal.first", "bitcast/signal.number", "bitcast/signal.zero", "bitcast/signal.group"], apart := false, laid := [("bitcast/signal.zero", laid_bitcast_signal_zero), ("bitcast/signal.number", laid_bitcast_signal_number), ("bitcast/signal.first", laid_bitcast_signal_first), ("bitcast/signal.group", laid_bitcast_signal_group)] }
def SignalAnswersSaid : Prop := signalAnswersRow.holds Tryd.pinned (OpenSpec.ofChange signalAnswersSpec)

/-- ITS FALSE NEIGHBOUR: 'it returns false'. Refute it at one input. -/
def signalAnswersWrong : ChangeSpec := { name := "signalAnswers", fn := fun _ => fun
  | [d1, d2] => { results := [.lit (.bool false)], args := [d1, d2] }
  | _ => none }
def SignalAnswersWrongFalsely : Prop := signalAnswersRow.holds Tryd.pinned (OpenSpec.ofChange signalAnswersWrong)

/- THE SECOND FORM. 'bulk': how many values and letters a reading holds, each counted each time it is reached (what is shared counts as often as it is met; a slice's spare places count too). A statement '..UptoSaid' is the law's where the arguments, and the package variables that the reading takes, are together of bulk at most 1048576: NARROWER than '..Said'. Prove '..Said' where nothing that the law and all that it calls make is longer than what came in: it says more and counts as full. Else prove '..UptoSaid'. A law counts once. -/
mutual
def uptoBulk {H : Type} : DataW H → Nat
  | .lit (.string bytes) => bytes.length + 1
  | .lit _ => 1
  | .nil => 1
  | .ptr d => uptoBulk d + 1
  | .slice elems spare => uptoBulkAll elems + uptoBulkAll spare + 1
  | .agg parts => uptoBulkAll parts + 1
  | .iface _ d => uptoBulk d + 1
  | .map entries => uptoBulkEntries entries + 1
  | .held _ => 1
def uptoBulkAll {H : Type} : List (DataW H) → Nat
  | [] => 0
  | d :: r => uptoBulk d + uptoBulkAll r
def uptoBulkEntries {H : Type} : List (Lit × DataW H) → Nat
  | [] => 0
  | x :: r => uptoBulkEntry x + uptoBulkEntries r
def uptoBulkEntry {H : Type} : Lit × DataW H → Nat
  | (.string bytes, d) => bytes.length + uptoBulk d + 1
  | (_, d) => uptoBulk d + 1
 end
def uptoSmall : (H : Type) → List (DataW H) → Bool := fun _ ds => decide (uptoBulkAll ds ≤ 1048576)
def OpenSpec.upto (s : _root_.Go.ChangeSpec) : _root_.Go.OpenSpec := { _root_.Go.OpenSpec.ofChange s with cond := some uptoSmall }

/-- 'bitcastlaw25.SignalDecodes', WHERE WHAT IT READS IS OF BULK AT MOST 1048576: true; the input reads as it did. -/
def signalDecodesUptoRow : OpenClaim := { program := "ytjimcfblobcimaadoor", sum := "e1978a5e409aae16375423d1315cd12e42d544c4353bb286cb0c338c2cfa0c21", func := "bitcast/bitcastlaw25.SignalDecodes", spec := "signalDecodes", named := ["bitcast/signal.first", "bitcast/signal.number", "bitcast/signal.zero", "bitcast/signal.group"], apart := false, laid := [("bitcast/signal.zero", laid_bitcast_signal_zero), ("bitcast/signal.number", laid_bitcast_signal_number), ("bitcast/signal.first", laid_bitcast_signal_first), ("bitcast/signal.group", laid_bitcast_signal_group)], narrowed := true }
def SignalDecodesUptoSaid : Prop := signalDecodesUptoRow.holds Tryd.pinned (OpenSpec.upto signalDecodesSpec)

/-- 'bitcastlaw25.SignalBack', WHERE WHAT IT READS IS OF BULK AT MOST 1048576: true; the input reads as it did. -/
def signalBackUptoRow : OpenClaim := { program := "ytjimcfblobcimaadoor", sum := "e1978a5e409aae16375423d1315cd12e42d544c4353bb286cb0c338c2cfa0c21", func := "bitcast/bitcastlaw25.SignalBack", spec := "signalBack", named := ["bitcast/signal.first", "bitcast/signal.number", "bitcast/signal.zero", "bitcast/signal.group"], apart := false, laid := [("bitcast/signal.zero", laid_bitcast_signal_zero), ("bitcast/signal.number", laid_bitcast_signal_number), ("bitcast/signal.first", laid_bitcast_signal_first), ("bitcast/signal.group", laid_bitcast_signal_group)], narrowed := true }
def SignalBackUptoSaid : Prop := signalBackUptoRow.holds Tryd.pinned (OpenSpec.upto signalBackSpec)

/-- 'bitcastlaw25.SignalDamage', WHERE WHAT IT READS IS OF BULK AT MOST 1048576: true; the input reads as it did. -/
def signalDamageUptoRow : OpenClaim := { program := "ytjimcfblobcimaadoor", sum := "e1978a5e409aae16375423d1315cd12e42d544c4353bb286cb0c338c2cfa0c21", func := "bitcast/bitcastlaw25.SignalDamage", spec := "signalDamage", named := ["bitcast/signal.first", "bitcast/signal.number", "bitcast/signal.zero", "bitcast/signal.group"], apart := false, laid := [("bitcast/signal.zero", laid_bitcast_signal_zero), ("bitcast/signal.number", laid_bitcast_signal_number), ("bitcast/signal.first", laid_bitcast_signal_first), ("bitcast/signal.group", laid_bitcast_signal_group)], narrowed := true }
def SignalDamageUptoSaid : Prop := signalDamageUptoRow.holds Tryd.pinned (OpenSpec.upto signalDamageSpec)

/-- 'bitcastlaw25.SignalAnswers', WHERE WHAT IT READS IS OF BULK AT MOST 1048576: true; the input reads as it did. -/
def signalAnswersUptoRow : OpenClaim := { program := "ytjimcfblobcimaadoor", sum := "e1978a5e409aae16375423d1315cd12e42d544c4353bb286cb0c338c2cfa0c21", func := "bitcast/bitcastlaw25.SignalAnswers", spec := "signalAnswers", named := ["bitcast/signal.first", "bitcast/signal.number", "bitcast/signal.zero", "bitcast/signal.group"], apart := false, laid := [("bitcast/signal.zero", laid_bitcast_signal_zero), ("bitcast/signal.number", laid_bitcast_signal_number), ("bitcast/signal.first", laid_bitcast_signal_first), ("bitcast/signal.group", laid_bitcast_signal_group)], narrowed := true }
def SignalAnswersUptoSaid : Prop := signalAnswersUptoRow.holds Tryd.pinned (OpenSpec.upto signalAnswersSpec)

end Rows
end Go.Proofs.YtjimcfblobcimaaDoor
