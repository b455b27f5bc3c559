/-
  DERIVED. GIVEN WITH THE SEED: THE CARDS: each row of YtmpfafdaadhabaaGreatDoorRows.lean that lists a variable, with what it lists TIED to the program's text (the seventh form; the later family's looks); each row that meets fmt, with fmt's text TOLD by the authors' own Lean function (tested against real Go, not proved from fmt's source: count such statements apart). THE CARD IS WHAT COUNTS. Prove the row's statement (the work); the ties are given (YtmpfafdaadhabaaGreatDoorTie.lean); close each card by the builder's one call (the guide's Derived/Test/ToyasCard.lean, 'card_holds'). Laid BY PROGRAM, IN A SANDBOX (cutbox-door.mjs). By AI agents, Wed Nov 11 2026. No macro, syntax, notation, axiom, sorry.
-/
import Derived.Test.YtmpfafdaadhabaaGreatDoorRows
import GoSem.ClaimSeven
namespace Go.Proofs.YtmpfafdaadhabaaGreatDoor
namespace Rows

/-- THE TIED CARD OF 'bitcastlaw13.ForwardPackets'. -/
def forwardPacketsCard : Claim7 := { stood := { row := forwardPacketsRow, standIns := [], harness := (true, "e6c5fa84713b00148b60723d190577f6ae939ab68f4a6d1c03b159d15d9a9f7f"), looks := false }, kinds := [], alts := [], laidByText := true, laidKinds := [.data], laidTests := true, laidLooks := .later }
def ForwardPacketsCardSaid : Prop := Claim7.holds Tryz.pinned (.plain (OpenSpec.ofChange forwardPacketsSpec)) forwardPacketsCard

/-- THE SECOND FORM's CARD OF 'bitcastlaw13.ForwardPackets'. -/
def forwardPacketsUptoCard : Claim7 := { stood := { row := forwardPacketsUptoRow, standIns := [], harness := (true, "e6c5fa84713b00148b60723d190577f6ae939ab68f4a6d1c03b159d15d9a9f7f"), looks := false }, kinds := [], alts := [], laidByText := true, laidKinds := [.data], laidTests := true, laidLooks := .later }
def ForwardPacketsUptoCardSaid : Prop := Claim7.holds Tryz.pinned (.plain (OpenSpec.upto forwardPacketsSpec)) forwardPacketsUptoCard
end Rows
end Go.Proofs.YtmpfafdaadhabaaGreatDoor
