/-
  NARROWER THAN 'FOR EVERY INPUT', by the rows' own cells (each row's printed sentence says how): DetectBoth: laid · DetectComes: laid · DetectStays: laid · DetectHears: laid · DetectSteps: laid · DetectNotices: laid · DetectPlays: laid.
  DERIVED. THE GIVEN ROWS OF THIS SEAT. 7 by the template 'for every input the law returns true; each argument reads behind the call as it read before'; 0 by the template 'total and deterministic' (their statements: YtjhfiaheknhodaaDoorTotals.lean).
  GIVEN WITH THE SEED: the statements are not yours to turn. If you find one false, say at which input.
  Laid BY PROGRAM, IN A SANDBOX (cutbox-rows.mjs): the forced cells as the released guide's own fill.sh prints them over the translation e0d7906a17ef39cd… (all of the seat's roots in one cut). By AI agents, Wed Nov 11 2026. No macro, syntax, notation, axiom, sorry.
-/
import Derived.Test.YtjhfiaheknhodaaDoorChecked
import GoSem.Claim
import GoSem.ClaimJoined
import GoSem.ClaimMapViews
import Derived.JoinedTies
import Derived.KernelRfl
namespace Go.Proofs.YtjhfiaheknhodaaDoor
/- THE CELL 'sum', in the pinned program and in every row, IS THE sha256 OF THE DUMP (.gsa) THAT YtjhfiaheknhodaaDoorProg.lean LOADS. Nothing in Lean hashes anything: it is a label: what it is worth is what the hold of that sum in a sandbox is worth. -/
noncomputable def Tryd.pinned : Pinned := { name := "ytjhfiaheknhodaadoor", sum := "e0d7906a17ef39cdeb86beeb3564886de1070433da95c2f376502ab7f4bbf162", checked := Tryd.checked }
namespace Rows
def none {H : Type} : Left H := { results := [], args := [] }

/- WHAT THE LISTED PACKAGE-LEVEL VARIABLES READ AS WHEN THE CALL BEGINS. Each datum BY PROGRAM (the guide's laid-datum.mjs) off the statement by which the dump's own 'gosem.cut.vars' lays the variable. In a bare row this is a premise. The card (YtjhfiaheknhodaaDoorCards.lean) ties it to the program's text. -/
def laid_bitcast_detect_after {H : Type} : DataW H := .agg [.agg [.lit (.int .i64 1), .lit (.int .i64 2), .lit (.int .i64 0)], .agg [.lit (.int .i64 1), .lit (.int .i64 2), .lit (.int .i64 2)], .agg [.lit (.int .i64 0), .lit (.int .i64 2), .lit (.int .i64 2)]]

/-- 'bitcastlaw19.DetectBoth': WHATEVER THE INPUT: true; the input reads as it did. -/
def detectBothSpec : ChangeSpec := { name := "detectBoth", fn := fun _ => fun
  | [d1, d2, d3, d4] => { results := [.lit (.bool true)], args := [d1, d2, d3, d4] }
  | _ => none }
def detectBothRow : OpenClaim := { program := "ytjhfiaheknhodaadoor", sum := "e0d7906a17ef39cdeb86beeb3564886de1070433da95c2f376502ab7f4bbf162", func := "bitcast/bitcastlaw19.DetectBoth", spec := "detectBoth", named := ["bitcast/detect.after"], apart := false, laid := [("bitcast/detect.after", laid_bitcast_detect_after)] }
def DetectBothSaid : Prop := detectBothRow.holds Tryd.pinned (OpenSpec.ofChange detectBothSpec)

/-- ITS FALSE NEIGHBOUR: 'it returns false'. Refute it at one input. -/
def detectBothWrong : ChangeSpec := { name := "detectBoth", fn := fun _ => fun
  | [d1, d2, d3, d4] => { results := [.lit (.bool false)], args := [d1, d2, d3, d4] }
  | _ => none }
def DetectBothWrongFalsely : Prop := detectBothRow.holds Tryd.pinned (OpenSpec.ofChange detectBothWrong)

/-- 'bitcastlaw19.DetectComes': WHATEVER THE INPUT: true; the input reads as it did. -/
def detectComesSpec : ChangeSpec := { name := "detectComes", fn := fun _ => fun
  | [d1, d2] => { results := [.lit (.bool true)], args := [d1, d2] }
  | _ => none }
def detectComesRow : OpenClaim := { program := "ytjhfiaheknhodaadoor", sum := "e0d7906a17ef39cdeb86beeb3564886de1070433da95c2f376502ab7f4bbf162", func := "bitcast/bitcastlaw19.DetectComes", spec := "detectComes", named := ["bitcast/detect.after"], apart := false, laid := [("bitcast/detect.after", laid_bitcast_detect_after)] }
def DetectComesSaid : Prop := detectComesRow.holds Tryd.pinned (OpenSpec.ofChange detectComesSpec)

/-- ITS FALSE NEIGHBOUR: 'it returns false'. Refute it at one input. -/
def detectComesWrong : ChangeSpec := { name := "detectComes", fn := fun _ => fun
  | [d1, d2] => { results := [.lit (.bool false)], args := [d1, d2] }
  | _ => none }
def DetectComesWrongFalsely : Prop := detectComesRow.holds Tryd.pinned (OpenSpec.ofChange detectComesWrong)

/-- 'bitcastlaw19.DetectStays': WHATEVER THE INPUT: true; the input reads as it did. -/
def detectStaysSpec : ChangeSpec := { name := "detectStays", fn := fun _ => fun
  | [d] => { results := [.lit (.bool true)], args := [d] }
  | _ => none }
def detectStaysRow : OpenClaim := { program := "ytjhfiaheknhodaadoor", sum := "e0d7906a17ef39cdeb86beeb3564886de1070433da95c2f376502ab7f4bbf162", func := "bitcast/bitcastlaw19.DetectStays", spec := "detectStays", named := ["bitcast/detect.after"], apart := false, laid := [("bitcast/detect.after", laid_bitcast_detect_after)] }
def DetectStaysSaid : Prop := detectStaysRow.holds Tryd.pinned (OpenSpec.ofChange detectStaysSpec)

/-- ITS FALSE NEIGHBOUR: 'it returns false'. Refute it at one input. -/
def detectStaysWrong : ChangeSpec := { name := "detectStays", fn := fun _ => fun
  | [d] => { results := [.lit (.bool false)], args := [d] }
  | _ => none }
def DetectStaysWrongFalsely : Prop := detectStaysRow.holds Tryd.pinned (OpenSpec.ofChange detectStaysWrong)

/-- 'bitcastlaw19.DetectHears': WHATEVER THE INPUT: true; the input reads as it did. -/
def detectHearsSpec : ChangeSpec := { name := "detectHears", fn := fun _ => fun
  | [d1, d2] => { results := [.lit (.bool true)], args := [d1, d2] }
  | _ => none }
def detectHearsRow : OpenClaim := { program := "ytjhfiaheknhodaadoor", sum := "e0d7906a17ef39cdeb86beeb3564886de1070433da95c2f376502ab7f4bbf162", func := "bitcast/bitcastlaw19.DetectHears", spec := "detectHears", named := ["bitcast/detect.after"], apart := false, laid := [("bitcast/detect.after", laid_bitcast_detect_after)] }
def DetectHearsSaid : Prop := detectHearsRow.holds Tryd.pinned (OpenSpec.ofChange detectHearsSpec)

/-- ITS FALSE NEIGHBOUR: 'it returns false'. Refute it at one input. -/
def detectHearsWrong : ChangeSpec := { name := "detectHears", fn := fun _ => fun
  | [d1, d2] => { results := [.lit (.bool false)], args := [d1, d2] }
  | _ => none }
def DetectHearsWrongFalsely : Prop := detectHearsRow.holds Tryd.pinned (OpenSpec.ofChange detectHearsWrong)

/-- 'bitcastlaw19.DetectSteps': WHATEVER THE INPUT: true; the input reads as it did. -/
def detectStepsSpec : ChangeSpec := { name := "detectSteps", fn := fun _ => fun
  | [d1, d2, d3] => { results := [.lit (.bool true)], args := [d1, d2, d3] }
  | _ => none }
def detectStepsRow : OpenClaim := { program := "ytjhfiaheknhodaadoor", sum := "e0d7906a17ef39cdeb86beeb3564886de1070433da95c2f376502ab7f4bbf162", func := "bitcast/bitcastlaw19.DetectSteps", spec := "detectSteps", named := ["bitcast/detect.after"], apart := false, laid := [("bitcast/detect.after", laid_bitcast_detect_after)] }
def DetectStepsSaid : Prop := detectStepsRow.holds Tryd.pinned (OpenSpec.ofChange detectStepsSpec)

/-- ITS FALSE NEIGHBOUR: 'it returns false'. Refute it at one input. -/
def detectStepsWrong : ChangeSpec := { name := "detectSteps", fn := fun _ => fun
  | [d1, d2, d3] => { results := [.lit (.bool false)], args := [d1, d2, d3] }
  | _ => none }
def DetectStepsWrongFalsely : Prop := detectStepsRow.holds Tryd.pinned (OpenSpec.ofChange detectStepsWrong)

/-- 'bitcastlaw19.DetectNotices': WHATEVER THE INPUT: true; the input reads as it did. -/
def detectNoticesSpec : ChangeSpec := { name := "detectNotices", fn := fun _ => fun
  | [d] => { results := [.lit (.bool true)], args := [d] }
  | _ => none }
def detectNoticesRow : OpenClaim := { program := "ytjhfiaheknhodaadoor", sum := "e0d7906a17ef39cdeb86beeb3564886de1070433da95c2f376502ab7f4bbf162", func := "bitcast/bitcastlaw19.DetectNotices", spec := "detectNotices", named := ["bitcast/detect.after"], apart := false, laid := [("bitcast/detect.after", laid_bitcast_detect_after)] }
def DetectNoticesSaid : Prop := detectNoticesRow.holds Tryd.pinned (OpenSpec.ofChange detectNoticesSpec)

/-- ITS FALSE NEIGHBOUR: 'it returns false'. Refute it at one input. -/
def detectNoticesWrong : ChangeSpec := { name := "detectNotices", fn := fun _ => fun
  | [d] => { results := [.lit (.bool false)], args := [d] }
  | _ => none }
def DetectNoticesWrongFalsely : Prop := detectNoticesRow.holds Tryd.pinned (OpenSpec.ofChange detectNoticesWrong)

/-- 'bitcastlaw19.DetectPlays': WHATEVER THE INPUT: true; the input reads as it did. -/
def detectPlaysSpec : ChangeSpec := { name := "detectPlays", fn := fun _ => fun
  | [d1, d2, d3] => { results := [.lit (.bool true)], args := [d1, d2, d3] }
  | _ => none }
def detectPlaysRow : OpenClaim := { program := "ytjhfiaheknhodaadoor", sum := "e0d7906a17ef39cdeb86beeb3564886de1070433da95c2f376502ab7f4bbf162", func := "bitcast/bitcastlaw19.DetectPlays", spec := "detectPlays", named := ["bitcast/detect.after"], apart := false, laid := [("bitcast/detect.after", laid_bitcast_detect_after)] }
def DetectPlaysSaid : Prop := detectPlaysRow.holds Tryd.pinned (OpenSpec.ofChange detectPlaysSpec)

/-- ITS FALSE NEIGHBOUR: 'it returns false'. Refute it at one input. -/
def detectPlaysWrong : ChangeSpec := { name := "detectPlays", fn := fun _ => fun
  | [d1, d2, d3] => { results := [.lit (.bool false)], args := [d1, d2, d3] }
  | _ => none }
def DetectPlaysWrongFalsely : Prop := detectPlaysRow.holds Tryd.pinned (OpenSpec.ofChange detectPlaysWrong)

/- THE SECOND FORM. 'bulk': how many values and letters a reading holds, each counted each time it is reached (what is shared counts as often as it is met; a slice's spare places count too). A statement '..UptoSaid' is the law's where the arguments, and the package variables that the reading takes, are together of bulk at most 1048576: NARROWER than '..Said'. Prove '..Said' where nothing that the law and all that it calls make is longer than what came in: it says more and counts as full. Else prove '..UptoSaid'. A law counts once. -/
mutual
def uptoBulk {H : Type} : DataW H → Nat
  | .lit (.string bytes) => bytes.length + 1
  | .lit _ => 1
  | .nil => 1
  | .ptr d => uptoBulk d + 1
  | .slice elems spare => uptoBulkAll elems + uptoBulkAll spare + 1
  | .agg parts => uptoBulkAll parts + 1
  | .iface _ d => uptoBulk d + 1
  | .map entries => uptoBulkEntries entries + 1
  | .held _ => 1
def uptoBulkAll {H : Type} : List (DataW H) → Nat
  | [] => 0
  | d :: r => uptoBulk d + uptoBulkAll r
def uptoBulkEntries {H : Type} : List (Lit × DataW H) → Nat
  | [] => 0
  | x :: r => uptoBulkEntry x + uptoBulkEntries r
def uptoBulkEntry {H : Type} : Lit × DataW H → Nat
  | (.string bytes, d) => bytes.length + uptoBulk d + 1
  | (_, d) => uptoBulk d + 1
 end
def uptoSmall : (H : Type) → List (DataW H) → Bool := fun _ ds => decide (uptoBulkAll ds ≤ 1048576)
def OpenSpec.upto (s : _root_.Go.ChangeSpec) : _root_.Go.OpenSpec := { _root_.Go.OpenSpec.ofChange s with cond := some uptoSmall }

/-- 'bitcastlaw19.DetectBoth', WHERE WHAT IT READS IS OF BULK AT MOST 1048576: true; the input reads as it did. -/
def detectBothUptoRow : OpenClaim := { program := "ytjhfiaheknhodaadoor", sum := "e0d7906a17ef39cdeb86beeb3564886de1070433da95c2f376502ab7f4bbf162", func := "bitcast/bitcastlaw19.DetectBoth", spec := "detectBoth", named := ["bitcast/detect.after"], apart := false, laid := [("bitcast/detect.after", laid_bitcast_detect_after)], narrowed := true }
def DetectBothUptoSaid : Prop := detectBothUptoRow.holds Tryd.pinned (OpenSpec.upto detectBothSpec)

/-- 'bitcastlaw19.DetectComes', WHERE WHAT IT READS IS OF BULK AT MOST 1048576: true; the input reads as it did. -/
def detectComesUptoRow : OpenClaim := { program := "ytjhfiaheknhodaadoor", sum := "e0d7906a17ef39cdeb86beeb3564886de1070433da95c2f376502ab7f4bbf162", func := "bitcast/bitcastlaw19.DetectComes", spec := "detectComes", named := ["bitcast/detect.after"], apart := false, laid := [("bitcast/detect.after", laid_bitcast_detect_after)], narrowed := true }
def DetectComesUptoSaid : Prop := detectComesUptoRow.holds Tryd.pinned (OpenSpec.upto detectComesSpec)

/-- 'bitcastlaw19.DetectStays', WHERE WHAT IT READS IS OF BULK AT MOST 1048576: true; the input reads as it did. -/
def detectStaysUptoRow : OpenClaim := { program := "ytjhfiaheknhodaadoor", sum := "e0d7906a17ef39cdeb86beeb3564886de1070433da95c2f376502ab7f4bbf162", func := "bitcast/bitcastlaw19.DetectStays", spec := "detectStays", named := ["bitcast/detect.after"], apart := false, laid := [("bitcast/detect.after", laid_bitcast_detect_after)], narrowed := true }
def DetectStaysUptoSaid : Prop := detectStaysUptoRow.holds Tryd.pinned (OpenSpec.upto detectStaysSpec)

/-- 'bitcastlaw19.DetectHears', WHERE WHAT IT READS IS OF BULK AT MOST 1048576: true; the input reads as it did. -/
def detectHearsUptoRow : OpenClaim := { program := "ytjhfiaheknhodaadoor", sum := "e0d7906a17ef39cdeb86beeb3564886de1070433da95c2f376502ab7f4bbf162", func := "bitcast/bitcastlaw19.DetectHears", spec := "detectHears", named := ["bitcast/detect.after"], apart := false, laid := [("bitcast/detect.after", laid_bitcast_detect_after)], narrowed := true }
def DetectHearsUptoSaid : Prop := detectHearsUptoRow.holds Tryd.pinned (OpenSpec.upto detectHearsSpec)

/-- 'bitcastlaw19.DetectSteps', WHERE WHAT IT READS IS OF BULK AT MOST 1048576: true; the input reads as it did. -/
def detectStepsUptoRow : OpenClaim := { program := "ytjhfiaheknhodaadoor", sum := "e0d7906a17ef39cdeb86beeb3564886de1070433da95c2f376502ab7f4bbf162", func := "bitcast/bitcastlaw19.DetectSteps", spec := "detectSteps", named := ["bitcast/detect.after"], apart := false, laid := [("bitcast/detect.after", laid_bitcast_detect_after)], narrowed := true }
def DetectStepsUptoSaid : Prop := detectStepsUptoRow.holds Tryd.pinned (OpenSpec.upto detectStepsSpec)

/-- 'bitcastlaw19.DetectNotices', WHERE WHAT IT READS IS OF BULK AT MOST 1048576: true; the input reads as it did. -/
def detectNoticesUptoRow : OpenClaim := { program := "ytjhfiaheknhodaadoor", sum := "e0d7906a17ef39cdeb86beeb3564886de1070433da95c2f376502ab7f4bbf162", func := "bitcast/bitcastlaw19.DetectNotices", spec := "detectNotices", named := ["bitcast/detect.after"], apart := false, laid := [("bitcast/detect.after", laid_bitcast_detect_after)], narrowed := true }
def DetectNoticesUptoSaid : Prop := detectNoticesUptoRow.holds Tryd.pinned (OpenSpec.upto detectNoticesSpec)

/-- 'bitcastlaw19.DetectPlays', WHERE WHAT IT READS IS OF BULK AT MOST 1048576: true; the input reads as it did. -/
def detectPlaysUptoRow : OpenClaim := { program := "ytjhfiaheknhodaadoor", sum := "e0d7906a17ef39cdeb86beeb3564886de1070433da95c2f376502ab7f4bbf162", func := "bitcast/bitcastlaw19.DetectPlays", spec := "detectPlays", named := ["bitcast/detect.after"], apart := false, laid := [("bitcast/detect.after", laid_bitcast_detect_after)], narrowed := true }
def DetectPlaysUptoSaid : Prop := detectPlaysUptoRow.holds Tryd.pinned (OpenSpec.upto detectPlaysSpec)

end Rows
end Go.Proofs.YtjhfiaheknhodaaDoor
