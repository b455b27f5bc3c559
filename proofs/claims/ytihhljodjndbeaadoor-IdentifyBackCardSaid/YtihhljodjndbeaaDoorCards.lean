/-
  DERIVED. GIVEN WITH THE SEED: THE CARDS: each row of YtihhljodjndbeaaDoorRows.lean that lists a variable, with what it lists TIED to the program's text (the seventh form; the later family's looks); each row that meets fmt, with fmt's text TOLD by the authors' own Lean function (tested against real Go, not proved from fmt's source: count such statements apart). THE CARD IS WHAT COUNTS. Prove the row's statement (the work); the ties are given (YtihhljodjndbeaaDoorTie.lean); close each card by the builder's one call (the guide's Derived/Test/ToyasCard.lean, 'card_holds'). Laid BY PROGRAM, IN A SANDBOX (cutbox-door.mjs). By AI agents, Wed Nov 11 2026. No macro, syntax, notation, axiom, sorry.
-/
import Derived.Test.YtihhljodjndbeaaDoorRows
import GoSem.ClaimSeven
namespace Go.Proofs.YtihhljodjndbeaaDoor
namespace Rows

/-- THE TIED CARD OF 'bitcastlaw10.IdentifySets'. -/
def identifySetsCard : Claim7 := { stood := { row := identifySetsRow, standIns := [], harness := (true, "cb4c564ccf33e082d7389797a60748e166abb50c848c60f4c29d4e6786c84667"), looks := false }, kinds := [], alts := [], laidByText := true, laidKinds := [.data], laidTests := true, laidLooks := .later }
def IdentifySetsCardSaid : Prop := Claim7.holds Tryd.pinned (.plain (OpenSpec.ofChange identifySetsSpec)) identifySetsCard

/-- THE TIED CARD OF 'bitcastlaw10.IdentifyBack'. -/
def identifyBackCard : Claim7 := { stood := { row := identifyBackRow, standIns := [], harness := (true, "cb4c564ccf33e082d7389797a60748e166abb50c848c60f4c29d4e6786c84667"), looks := false }, kinds := [], alts := [], laidByText := true, laidKinds := [.data], laidTests := true, laidLooks := .later }
def IdentifyBackCardSaid : Prop := Claim7.holds Tryd.pinned (.plain (OpenSpec.ofChange identifyBackSpec)) identifyBackCard

/-- THE SECOND FORM's CARD OF 'bitcastlaw10.IdentifySets'. -/
def identifySetsUptoCard : Claim7 := { stood := { row := identifySetsUptoRow, standIns := [], harness := (true, "cb4c564ccf33e082d7389797a60748e166abb50c848c60f4c29d4e6786c84667"), looks := false }, kinds := [], alts := [], laidByText := true, laidKinds := [.data], laidTests := true, laidLooks := .later }
def IdentifySetsUptoCardSaid : Prop := Claim7.holds Tryd.pinned (.plain (OpenSpec.upto identifySetsSpec)) identifySetsUptoCard

/-- THE SECOND FORM's CARD OF 'bitcastlaw10.IdentifyBack'. -/
def identifyBackUptoCard : Claim7 := { stood := { row := identifyBackUptoRow, standIns := [], harness := (true, "cb4c564ccf33e082d7389797a60748e166abb50c848c60f4c29d4e6786c84667"), looks := false }, kinds := [], alts := [], laidByText := true, laidKinds := [.data], laidTests := true, laidLooks := .later }
def IdentifyBackUptoCardSaid : Prop := Claim7.holds Tryd.pinned (.plain (OpenSpec.upto identifyBackSpec)) identifyBackUptoCard
end Rows
end Go.Proofs.YtihhljodjndbeaaDoor
