/-
  DERIVED. GIVEN WITH THE SEED: THE CARDS: each row of YtmpfafdaadhabaaDoorRows.lean that lists a variable, with what it lists TIED to the program's text (the seventh form; the later family's looks); each row that meets fmt, with fmt's text TOLD by the authors' own Lean function (tested against real Go, not proved from fmt's source: count such statements apart). THE CARD IS WHAT COUNTS. Prove the row's statement (the work); the ties are given (YtmpfafdaadhabaaDoorTie.lean); close each card by the builder's one call (the guide's Derived/Test/ToyasCard.lean, 'card_holds'). Laid BY PROGRAM, IN A SANDBOX (cutbox-door.mjs). By AI agents, Wed Nov 11 2026. No macro, syntax, notation, axiom, sorry.
-/
import Derived.Test.YtmpfafdaadhabaaDoorRows
import GoSem.ClaimSeven
namespace Go.Proofs.YtmpfafdaadhabaaDoor
namespace Rows

/-- THE TIED CARD OF 'bitcastlaw13.ForwardMasks'. -/
def forwardMasksCard : Claim7 := { stood := { row := forwardMasksRow, standIns := [], harness := (true, "2a7623a7a1813104f3ae94582018a11af263d4e88501241f85eded4d736cb0d7"), looks := false }, kinds := [], alts := [], laidByText := true, laidKinds := [.data], laidTests := true, laidLooks := .later }
def ForwardMasksCardSaid : Prop := Claim7.holds Tryd.pinned (.plain (OpenSpec.ofChange forwardMasksSpec)) forwardMasksCard

/-- THE TIED CARD OF 'bitcastlaw13.ForwardSingly'. -/
def forwardSinglyCard : Claim7 := { stood := { row := forwardSinglyRow, standIns := [], harness := (true, "2a7623a7a1813104f3ae94582018a11af263d4e88501241f85eded4d736cb0d7"), looks := false }, kinds := [], alts := [], laidByText := true, laidKinds := [.data], laidTests := true, laidLooks := .later }
def ForwardSinglyCardSaid : Prop := Claim7.holds Tryd.pinned (.plain (OpenSpec.ofChange forwardSinglySpec)) forwardSinglyCard

/-- THE TIED CARD OF 'bitcastlaw13.ForwardPlanes'. -/
def forwardPlanesCard : Claim7 := { stood := { row := forwardPlanesRow, standIns := [], harness := (true, "2a7623a7a1813104f3ae94582018a11af263d4e88501241f85eded4d736cb0d7"), looks := false }, kinds := [], alts := [], laidByText := true, laidKinds := [.data], laidTests := true, laidLooks := .later }
def ForwardPlanesCardSaid : Prop := Claim7.holds Tryd.pinned (.plain (OpenSpec.ofChange forwardPlanesSpec)) forwardPlanesCard

/-- THE TIED CARD OF 'bitcastlaw13.ForwardDivides'. -/
def forwardDividesCard : Claim7 := { stood := { row := forwardDividesRow, standIns := [], harness := (true, "2a7623a7a1813104f3ae94582018a11af263d4e88501241f85eded4d736cb0d7"), looks := false }, kinds := [], alts := [], laidByText := true, laidKinds := [.data], laidTests := true, laidLooks := .later }
def ForwardDividesCardSaid : Prop := Claim7.holds Tryd.pinned (.plain (OpenSpec.ofChange forwardDividesSpec)) forwardDividesCard

/-- THE TIED CARD OF 'bitcastlaw13.ForwardLocal'. -/
def forwardLocalCard : Claim7 := { stood := { row := forwardLocalRow, standIns := [], harness := (true, "2a7623a7a1813104f3ae94582018a11af263d4e88501241f85eded4d736cb0d7"), looks := false }, kinds := [], alts := [], laidByText := true, laidKinds := [.data], laidTests := true, laidLooks := .later }
def ForwardLocalCardSaid : Prop := Claim7.holds Tryd.pinned (.plain (OpenSpec.ofChange forwardLocalSpec)) forwardLocalCard

/-- THE SECOND FORM's CARD OF 'bitcastlaw13.ForwardMasks'. -/
def forwardMasksUptoCard : Claim7 := { stood := { row := forwardMasksUptoRow, standIns := [], harness := (true, "2a7623a7a1813104f3ae94582018a11af263d4e88501241f85eded4d736cb0d7"), looks := false }, kinds := [], alts := [], laidByText := true, laidKinds := [.data], laidTests := true, laidLooks := .later }
def ForwardMasksUptoCardSaid : Prop := Claim7.holds Tryd.pinned (.plain (OpenSpec.upto forwardMasksSpec)) forwardMasksUptoCard

/-- THE SECOND FORM's CARD OF 'bitcastlaw13.ForwardSingly'. -/
def forwardSinglyUptoCard : Claim7 := { stood := { row := forwardSinglyUptoRow, standIns := [], harness := (true, "2a7623a7a1813104f3ae94582018a11af263d4e88501241f85eded4d736cb0d7"), looks := false }, kinds := [], alts := [], laidByText := true, laidKinds := [.data], laidTests := true, laidLooks := .later }
def ForwardSinglyUptoCardSaid : Prop := Claim7.holds Tryd.pinned (.plain (OpenSpec.upto forwardSinglySpec)) forwardSinglyUptoCard

/-- THE SECOND FORM's CARD OF 'bitcastlaw13.ForwardPlanes'. -/
def forwardPlanesUptoCard : Claim7 := { stood := { row := forwardPlanesUptoRow, standIns := [], harness := (true, "2a7623a7a1813104f3ae94582018a11af263d4e88501241f85eded4d736cb0d7"), looks := false }, kinds := [], alts := [], laidByText := true, laidKinds := [.data], laidTests := true, laidLooks := .later }
def ForwardPlanesUptoCardSaid : Prop := Claim7.holds Tryd.pinned (.plain (OpenSpec.upto forwardPlanesSpec)) forwardPlanesUptoCard

/-- THE SECOND FORM's CARD OF 'bitcastlaw13.ForwardDivides'. -/
def forwardDividesUptoCard : Claim7 := { stood := { row := forwardDividesUptoRow, standIns := [], harness := (true, "2a7623a7a1813104f3ae94582018a11af263d4e88501241f85eded4d736cb0d7"), looks := false }, kinds := [], alts := [], laidByText := true, laidKinds := [.data], laidTests := true, laidLooks := .later }
def ForwardDividesUptoCardSaid : Prop := Claim7.holds Tryd.pinned (.plain (OpenSpec.upto forwardDividesSpec)) forwardDividesUptoCard

/-- THE SECOND FORM's CARD OF 'bitcastlaw13.ForwardLocal'. -/
def forwardLocalUptoCard : Claim7 := { stood := { row := forwardLocalUptoRow, standIns := [], harness := (true, "2a7623a7a1813104f3ae94582018a11af263d4e88501241f85eded4d736cb0d7"), looks := false }, kinds := [], alts := [], laidByText := true, laidKinds := [.data], laidTests := true, laidLooks := .later }
def ForwardLocalUptoCardSaid : Prop := Claim7.holds Tryd.pinned (.plain (OpenSpec.upto forwardLocalSpec)) forwardLocalUptoCard
end Rows
end Go.Proofs.YtmpfafdaadhabaaDoor
