/-
  NARROWER THAN 'FOR EVERY INPUT', by the rows' own cells (each row's printed sentence says how): ForwardMasks: laid · ForwardSingly: laid · ForwardPlanes: laid · ForwardDivides: laid · ForwardLocal: laid.
  DERIVED. THE GIVEN ROWS OF THIS SEAT. 5 by the template 'for every input the law returns true; each argument reads behind the call as it read before'; 0 by the template 'total and deterministic' (their statements: YtmpfafdaadhabaaDoorTotals.lean).
  GIVEN WITH THE SEED: the statements are not yours to turn. If you find one false, say at which input.
  Laid BY PROGRAM, IN A SANDBOX (cutbox-rows.mjs): the forced cells as the released guide's own fill.sh prints them over the translation d6ab885f0d5c9752… (all of the seat's roots in one cut). By AI agents, Wed Nov 11 2026. No macro, syntax, notation, axiom, sorry.
-/
import Derived.Test.YtmpfafdaadhabaaDoorChecked
import GoSem.Claim
import GoSem.ClaimJoined
import GoSem.ClaimMapViews
import Derived.JoinedTies
import Derived.KernelRfl
namespace Go.Proofs.YtmpfafdaadhabaaDoor
/- THE CELL 'sum', in the pinned program and in every row, IS THE sha256 OF THE DUMP (.gsa) THAT YtmpfafdaadhabaaDoorProg.lean LOADS. Nothing in Lean hashes anything: it is a label: what it is worth is what the hold of that sum in a sandbox is worth. -/
noncomputable def Tryd.pinned : Pinned := { name := "ytmpfafdaadhabaadoor", sum := "d6ab885f0d5c97526bff3a613e8b56cc2d9dde254f21b538288bdf151ad739e1", checked := Tryd.checked }
namespace Rows
def none {H : Type} : Left H := { results := [], args := [] }

/- WHAT THE LISTED PACKAGE-LEVEL VARIABLES READ AS WHEN THE CALL BEGINS. Each datum BY PROGRAM (the guide's laid-datum.mjs) off the statement by which the dump's own 'gosem.cut.vars' lays the variable. In a bare row this is a premise. The card (YtmpfafdaadhabaaDoorCards.lean) ties it to the program's text. -/
def laid_math_bits_deBruijn64tab {H : Type} : DataW H := .agg [.lit (.int .u8 0), .lit (.int .u8 1), .lit (.int .u8 56), .lit (.int .u8 2), .lit (.int .u8 57), .lit (.int .u8 49), .lit (.int .u8 28), .lit (.int .u8 3), .lit (.int .u8 61), .lit (.int .u8 58), .lit (.int .u8 42), .lit (.int .u8 50), .lit (.int .u8 38), .lit (.int .u8 29), .lit (.int .u8 17), .lit (.int .u8 4), .lit (.int .u8 62), .lit (.int .u8 47), .lit (.int .u8 59), .lit (.int .u8 36), .lit (.int .u8 45), .lit (.int .u8 43), .lit (.int .u8 51), .lit (.int .u8 22), .lit (.int .u8 53), .lit (.int .u8 39), .lit (.int .u8 33), .lit (.int .u8 30), .lit (.int .u8 24), .lit (.int .u8 18), .lit (.int .u8 12), .lit (.int .u8 5), .lit (.int .u8 63), .lit (.int .u8 55), .lit (.int .u8 48), .lit (.int .u8 27), .lit (.int .u8 60), .lit (.int .u8 41), .lit (.int .u8 37), .lit (.int .u8 16), .lit (.int .u8 46), .lit (.int .u8 35), .lit (.int .u8 44), .lit (.int .u8 21), .lit (.int .u8 52), .lit (.int .u8 32), .lit (.int .u8 23), .lit (.int .u8 11), .lit (.int .u8 54), .lit (.int .u8 26), .lit (.int .u8 40), .lit (.int .u8 15), .lit (.int .u8 34), .lit (.int .u8 20), .lit (.int .u8 31), .lit (.int .u8 10), .lit (.int .u8 25), .lit (.int .u8 14), .lit (.int .u8 19), .lit (.int .u8 9), .lit (.int .u8 13), .lit (.int .u8 8), .lit (.int .u8 7), .lit (.int .u8 6)]

/-- 'bitcastlaw13.ForwardMasks': WHATEVER THE INPUT: true; the input reads as it did. -/
def forwardMasksSpec : ChangeSpec := { name := "forwardMasks", fn := fun _ => fun
  | [d] => { results := [.lit (.bool true)], args := [d] }
  | _ => none }
def forwardMasksRow : OpenClaim := { program := "ytmpfafdaadhabaadoor", sum := "d6ab885f0d5c97526bff3a613e8b56cc2d9dde254f21b538288bdf151ad739e1", func := "bitcast/bitcastlaw13.ForwardMasks", spec := "forwardMasks", unfollowed := true, recurses := true, named := ["math/bits.deBruijn64tab"], apart := false, laid := [("math/bits.deBruijn64tab", laid_math_bits_deBruijn64tab)] }
def ForwardMasksSaid : Prop := forwardMasksRow.holds Tryd.pinned (OpenSpec.ofChange forwardMasksSpec)

/-- ITS FALSE NEIGHBOUR: 'it returns false'. Refute it at one input. -/
def forwardMasksWrong : ChangeSpec := { name := "forwardMasks", fn := fun _ => fun
  | [d] => { results := [.lit (.bool false)], args := [d] }
  | _ => none }
def ForwardMasksWrongFalsely : Prop := forwardMasksRow.holds Tryd.pinned (OpenSpec.ofChange forwardMasksWrong)

/-- 'bitcastlaw13.ForwardSingly': WHATEVER THE INPUT: true; the input reads as it did. -/
def forwardSinglySpec : ChangeSpec := { name := "forwardSingly", fn := fun _ => fun
  | [d] => { results := [.lit (.bool true)], args := [d] }
  | _ => none }
def forwardSinglyRow : OpenClaim := { program := "ytmpfafdaadhabaadoor", sum := "d6ab885f0d5c97526bff3a613e8b56cc2d9dde254f21b538288bdf151ad739e1", func := "bitcast/bitcastlaw13.ForwardSingly", spec := "forwardSingly", unfollowed := true, recurses := true, named := ["math/bits.deBruijn64tab"], apart := false, laid := [("math/bits.deBruijn64tab", laid_math_bits_deBruijn64tab)] }
def ForwardSinglySaid : Prop := forwardSinglyRow.holds Tryd.pinned (OpenSpec.ofChange forwardSinglySpec)

/-- ITS FALSE NEIGHBOUR: 'it returns false'. Refute it at one input. -/
def forwardSinglyWrong : ChangeSpec := { name := "forwardSingly", fn := fun _ => fun
  | [d] => { results := [.lit (.bool false)], args := [d] }
  | _ => none }
def ForwardSinglyWrongFalsely : Prop := forwardSinglyRow.holds Tryd.pinned (OpenSpec.ofChange forwardSinglyWrong)

/-- 'bitcastlaw13.ForwardPlanes': WHATEVER THE INPUT: true; the input reads as it did. -/
def forwardPlanesSpec : ChangeSpec := { name := "forwardPlanes", fn := fun _ => fun
  | [d1, d2] => { results := [.lit (.bool true)], args := [d1, d2] }
  | _ => none }
def forwardPlanesRow : OpenClaim := { program := "ytmpfafdaadhabaadoor", sum := "d6ab885f0d5c97526bff3a613e8b56cc2d9dde254f21b538288bdf151ad739e1", func := "bitcast/bitcastlaw13.ForwardPlanes", spec := "forwardPlanes", unfollowed := true, recurses := true, named := ["math/bits.deBruijn64tab"], apart := false, laid := [("math/bits.deBruijn64tab", laid_math_bits_deBruijn64tab)] }
def ForwardPlanesSaid : Prop := forwardPlanesRow.holds Tryd.pinned (OpenSpec.ofChange forwardPlanesSpec)

/-- ITS FALSE NEIGHBOUR: 'it returns false'. Refute it at one input. -/
def forwardPlanesWrong : ChangeSpec := { name := "forwardPlanes", fn := fun _ => fun
  | [d1, d2] => { results := [.lit (.bool false)], args := [d1, d2] }
  | _ => none }
def ForwardPlanesWrongFalsely : Prop := forwardPlanesRow.holds Tryd.pinned (OpenSpec.ofChange forwardPlanesWrong)

/-- 'bitcastlaw13.ForwardDivides': WHATEVER THE INPUT: true; the input reads as it did. -/
def forwardDividesSpec : ChangeSpec := { name := "forwardDivides", fn := fun _ => fun
  | [d] => { results := [.lit (.bool true)], args := [d] }
  | _ => none }
def forwardDividesRow : OpenClaim := { program := "ytmpfafdaadhabaadoor", sum := "d6ab885f0d5c97526bff3a613e8b56cc2d9dde254f21b538288bdf151ad739e1", func := "bitcast/bitcastlaw13.ForwardDivides", spec := "forwardDivides", unfollowed := true, recurses := true, named := ["math/bits.deBruijn64tab"], apart := false, laid := [("math/bits.deBruijn64tab", laid_math_bits_deBruijn64tab)] }
def ForwardDividesSaid : Prop := forwardDividesRow.holds Tryd.pinned (OpenSpec.ofChange forwardDividesSpec)

/-- ITS FALSE NEIGHBOUR: 'it returns false'. Refute it at one input. -/
def forwardDividesWrong : ChangeSpec := { name := "forwardDivides", fn := fun _ => fun
  | [d] => { results := [.lit (.bool false)], args := [d] }
  | _ => none }
def ForwardDividesWrongFalsely : Prop := forwardDividesRow.holds Tryd.pinned (OpenSpec.ofChange forwardDividesWrong)

/-- 'bitcastlaw13.ForwardLocal': WHATEVER THE INPUT: true; the input reads as it did. -/
def forwardLocalSpec : ChangeSpec := { name := "forwardLocal", fn := fun _ => fun
  | [d1, d2, d3, d4] => { results := [.lit (.bool true)], args := [d1, d2, d3, d4] }
  | _ => none }
def forwardLocalRow : OpenClaim := { program := "ytmpfafdaadhabaadoor", sum := "d6ab885f0d5c97526bff3a613e8b56cc2d9dde254f21b538288bdf151ad739e1", func := "bitcast/bitcastlaw13.ForwardLocal", spec := "forwardLocal", unfollowed := true, recurses := true, named := ["math/bits.deBruijn64tab"], apart := false, laid := [("math/bits.deBruijn64tab", laid_math_bits_deBruijn64tab)] }
def ForwardLocalSaid : Prop := forwardLocalRow.holds Tryd.pinned (OpenSpec.ofChange forwardLocalSpec)

/-- ITS FALSE NEIGHBOUR: 'it returns false'. Refute it at one input. -/
def forwardLocalWrong : ChangeSpec := { name := "forwardLocal", fn := fun _ => fun
  | [d1, d2, d3, d4] => { results := [.lit (.bool false)], args := [d1, d2, d3, d4] }
  | _ => none }
def ForwardLocalWrongFalsely : Prop := forwardLocalRow.holds Tryd.pinned (OpenSpec.ofChange forwardLocalWrong)

/- THE SECOND FORM. 'bulk': how many values and letters a reading holds, each counted each time it is reached (what is shared counts as often as it is met; a slice's spare places count too). A statement '..UptoSaid' is the law's where the arguments, and the package variables that the reading takes, are together of bulk at most 1048576: NARROWER than '..Said'. Prove '..Said' where nothing that the law and all that it calls make is longer than what came in: it says more and counts as full. Else prove '..UptoSaid'. A law counts once. -/
mutual
def uptoBulk {H : Type} : DataW H → Nat
  | .lit (.string bytes) => bytes.length + 1
  | .lit _ => 1
  | .nil => 1
  | .ptr d => uptoBulk d + 1
  | .slice elems spare => uptoBulkAll elems + uptoBulkAll spare + 1
  | .agg parts => uptoBulkAll parts + 1
  | .iface _ d => uptoBulk d + 1
  | .map entries => uptoBulkEntries entries + 1
  | .held _ => 1
def uptoBulkAll {H : Type} : List (DataW H) → Nat
  | [] => 0
  | d :: r => uptoBulk d + uptoBulkAll r
def uptoBulkEntries {H : Type} : List (Lit × DataW H) → Nat
  | [] => 0
  | x :: r => uptoBulkEntry x + uptoBulkEntries r
def uptoBulkEntry {H : Type} : Lit × DataW H → Nat
  | (.string bytes, d) => bytes.length + uptoBulk d + 1
  | (_, d) => uptoBulk d + 1
 end
def uptoSmall : (H : Type) → List (DataW H) → Bool := fun _ ds => decide (uptoBulkAll ds ≤ 1048576)
def OpenSpec.upto (s : _root_.Go.ChangeSpec) : _root_.Go.OpenSpec := { _root_.Go.OpenSpec.ofChange s with cond := some uptoSmall }

/-- 'bitcastlaw13.ForwardMasks', WHERE WHAT IT READS IS OF BULK AT MOST 1048576: true; the input reads as it did. -/
def forwardMasksUptoRow : OpenClaim := { program := "ytmpfafdaadhabaadoor", sum := "d6ab885f0d5c97526bff3a613e8b56cc2d9dde254f21b538288bdf151ad739e1", func := "bitcast/bitcastlaw13.ForwardMasks", spec := "forwardMasks", unfollowed := true, recurses := true, named := ["math/bits.deBruijn64tab"], apart := false, laid := [("math/bits.deBruijn64tab", laid_math_bits_deBruijn64tab)], narrowed := true }
def ForwardMasksUptoSaid : Prop := forwardMasksUptoRow.holds Tryd.pinned (OpenSpec.upto forwardMasksSpec)

/-- 'bitcastlaw13.ForwardSingly', WHERE WHAT IT READS IS OF BULK AT MOST 1048576: true; the input reads as it did. -/
def forwardSinglyUptoRow : OpenClaim := { program := "ytmpfafdaadhabaadoor", sum := "d6ab885f0d5c97526bff3a613e8b56cc2d9dde254f21b538288bdf151ad739e1", func := "bitcast/bitcastlaw13.ForwardSingly", spec := "forwardSingly", unfollowed := true, recurses := true, named := ["math/bits.deBruijn64tab"], apart := false, laid := [("math/bits.deBruijn64tab", laid_math_bits_deBruijn64tab)], narrowed := true }
def ForwardSinglyUptoSaid : Prop := forwardSinglyUptoRow.holds Tryd.pinned (OpenSpec.upto forwardSinglySpec)

/-- 'bitcastlaw13.ForwardPlanes', WHERE WHAT IT READS IS OF BULK AT MOST 1048576: true; the input reads as it did. -/
def forwardPlanesUptoRow : OpenClaim := { program := "ytmpfafdaadhabaadoor", sum := "d6ab885f0d5c97526bff3a613e8b56cc2d9dde254f21b538288bdf151ad739e1", func := "bitcast/bitcastlaw13.ForwardPlanes", spec := "forwardPlanes", unfollowed := true, recurses := true, named := ["math/bits.deBruijn64tab"], apart := false, laid := [("math/bits.deBruijn64tab", laid_math_bits_deBruijn64tab)], narrowed := true }
def ForwardPlanesUptoSaid : Prop := forwardPlanesUptoRow.holds Tryd.pinned (OpenSpec.upto forwardPlanesSpec)

/-- 'bitcastlaw13.ForwardDivides', WHERE WHAT IT READS IS OF BULK AT MOST 1048576: true; the input reads as it did. -/
def forwardDividesUptoRow : OpenClaim := { program := "ytmpfafdaadhabaadoor", sum := "d6ab885f0d5c97526bff3a613e8b56cc2d9dde254f21b538288bdf151ad739e1", func := "bitcast/bitcastlaw13.ForwardDivides", spec := "forwardDivides", unfollowed := true, recurses := true, named := ["math/bits.deBruijn64tab"], apart := false, laid := [("math/bits.deBruijn64tab", laid_math_bits_deBruijn64tab)], narrowed := true }
def ForwardDividesUptoSaid : Prop := forwardDividesUptoRow.holds Tryd.pinned (OpenSpec.upto forwardDividesSpec)

/-- 'bitcastlaw13.ForwardLocal', WHERE WHAT IT READS IS OF BULK AT MOST 1048576: true; the input reads as it did. -/
def forwardLocalUptoRow : OpenClaim := { program := "ytmpfafdaadhabaadoor", sum := "d6ab885f0d5c97526bff3a613e8b56cc2d9dde254f21b538288bdf151ad739e1", func := "bitcast/bitcastlaw13.ForwardLocal", spec := "forwardLocal", unfollowed := true, recurses := true, named := ["math/bits.deBruijn64tab"], apart := false, laid := [("math/bits.deBruijn64tab", laid_math_bits_deBruijn64tab)], narrowed := true }
def ForwardLocalUptoSaid : Prop := forwardLocalUptoRow.holds Tryd.pinned (OpenSpec.upto forwardLocalSpec)

end Rows
end Go.Proofs.YtmpfafdaadhabaaDoor
