/-
  DERIVED. GIVEN WITH THE SEED: THE CARDS: each row of YtaabojpgjgeigaaGreatDoorRows.lean that lists a variable, with what it lists TIED to the program's text (the seventh form; the later family's looks); each row that meets fmt, with fmt's text TOLD by the authors' own Lean function (tested against real Go, not proved from fmt's source: count such statements apart). THE CARD IS WHAT COUNTS. Prove the row's statement (the work); the ties are given (YtaabojpgjgeigaaGreatDoorTie.lean); close each card by the builder's one call (the guide's Derived/Test/ToyasCard.lean, 'card_holds'). Laid BY PROGRAM, IN A SANDBOX (cutbox-door.mjs). By AI agents, Wed Nov 11 2026. No macro, syntax, notation, axiom, sorry.
-/
import Derived.Test.YtaabojpgjgeigaaGreatDoorRows
import GoSem.ClaimSeven
namespace Go.Proofs.YtaabojpgjgeigaaGreatDoor
namespace Rows

/-- THE TIED CARD OF 'bitcastlaw29.EgressHosts'. -/
def egressHostsCard : Claim7 := { stood := { row := egressHostsRow, standIns := [], harness := (true, "4ee73f110a80f6da83e567d7f812901c4ff5b768f3467e5a3c1eca921ec302a8"), looks := false }, kinds := [], alts := [], laidByText := true, laidKinds := [.data], laidTests := true, laidLooks := .later }
def EgressHostsCardSaid : Prop := Claim7.holds Tryz.pinned (.plain (OpenSpec.ofChange egressHostsSpec)) egressHostsCard

/-- THE TIED CARD OF 'bitcastlaw29.EgressAnswers'. -/
def egressAnswersCard : Claim7 := { stood := { row := egressAnswersRow, standIns := [], harness := (true, "4ee73f110a80f6da83e567d7f812901c4ff5b768f3467e5a3c1eca921ec302a8"), looks := false }, kinds := [], alts := [], laidByText := true, laidKinds := [.data], laidTests := true, laidLooks := .later }
def EgressAnswersCardSaid : Prop := Claim7.holds Tryz.pinned (.plain (OpenSpec.ofChange egressAnswersSpec)) egressAnswersCard

/-- THE SECOND FORM's CARD OF 'bitcastlaw29.EgressHosts'. -/
def egressHostsUptoCard : Claim7 := { stood := { row := egressHostsUptoRow, standIns := [], harness := (true, "4ee73f110a80f6da83e567d7f812901c4ff5b768f3467e5a3c1eca921ec302a8"), looks := false }, kinds := [], alts := [], laidByText := true, laidKinds := [.data], laidTests := true, laidLooks := .later }
def EgressHostsUptoCardSaid : Prop := Claim7.holds Tryz.pinned (.plain (OpenSpec.upto egressHostsSpec)) egressHostsUptoCard

/-- THE SECOND FORM's CARD OF 'bitcastlaw29.EgressAnswers'. -/
def egressAnswersUptoCard : Claim7 := { stood := { row := egressAnswersUptoRow, standIns := [], harness := (true, "4ee73f110a80f6da83e567d7f812901c4ff5b768f3467e5a3c1eca921ec302a8"), looks := false }, kinds := [], alts := [], laidByText := true, laidKinds := [.data], laidTests := true, laidLooks := .later }
def EgressAnswersUptoCardSaid : Prop := Claim7.holds Tryz.pinned (.plain (OpenSpec.upto egressAnswersSpec)) egressAnswersUptoCard
end Rows
end Go.Proofs.YtaabojpgjgeigaaGreatDoor
