/-
  DERIVED. GIVEN WITH THE SEED: THE CARDS: each row of YtaabojpgjgeigaaDoorRows.lean that lists a variable, with what it lists TIED to the program's text (the seventh form; the later family's looks); each row that meets fmt, with fmt's text TOLD by the authors' own Lean function (tested against real Go, not proved from fmt's source: count such statements apart). THE CARD IS WHAT COUNTS. Prove the row's statement (the work); the ties are given (YtaabojpgjgeigaaDoorTie.lean); close each card by the builder's one call (the guide's Derived/Test/ToyasCard.lean, 'card_holds'). Laid BY PROGRAM, IN A SANDBOX (cutbox-door.mjs). By AI agents, Wed Nov 11 2026. No macro, syntax, notation, axiom, sorry.
-/
import Derived.Test.YtaabojpgjgeigaaDoorRows
import GoSem.ClaimSeven
namespace Go.Proofs.YtaabojpgjgeigaaDoor
namespace Rows

/-- THE TIED CARD OF 'bitcastlaw29.EgressSort'. -/
def egressSortCard : Claim7 := { stood := { row := egressSortRow, standIns := [], harness := (true, "b41145268398f32309b1620e51b9ccac58a2977bb2e307469f0202ad6202a833"), looks := false }, kinds := [], alts := [], laidByText := true, laidKinds := [.data], laidTests := true, laidLooks := .later }
def EgressSortCardSaid : Prop := Claim7.holds Tryd.pinned (.plain (OpenSpec.ofChange egressSortSpec)) egressSortCard

/-- THE SECOND FORM's CARD OF 'bitcastlaw29.EgressSort'. -/
def egressSortUptoCard : Claim7 := { stood := { row := egressSortUptoRow, standIns := [], harness := (true, "b41145268398f32309b1620e51b9ccac58a2977bb2e307469f0202ad6202a833"), looks := false }, kinds := [], alts := [], laidByText := true, laidKinds := [.data], laidTests := true, laidLooks := .later }
def EgressSortUptoCardSaid : Prop := Claim7.holds Tryd.pinned (.plain (OpenSpec.upto egressSortSpec)) egressSortUptoCard
end Rows
end Go.Proofs.YtaabojpgjgeigaaDoor
