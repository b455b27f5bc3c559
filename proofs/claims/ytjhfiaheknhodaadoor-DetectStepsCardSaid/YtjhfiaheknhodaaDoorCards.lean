/-
  DERIVED. GIVEN WITH THE SEED: THE CARDS: each row of YtjhfiaheknhodaaDoorRows.lean that lists a variable, with what it lists TIED to the program's text (the seventh form; the later family's looks); each row that meets fmt, with fmt's text TOLD by the authors' own Lean function (tested against real Go, not proved from fmt's source: count such statements apart). THE CARD IS WHAT COUNTS. Prove the row's statement (the work); the ties are given (YtjhfiaheknhodaaDoorTie.lean); close each card by the builder's one call (the guide's Derived/Test/ToyasCard.lean, 'card_holds'). Laid BY PROGRAM, IN A SANDBOX (cutbox-door.mjs). By AI agents, Wed Nov 11 2026. No macro, syntax, notation, axiom, sorry.
-/
import Derived.Test.YtjhfiaheknhodaaDoorRows
import GoSem.ClaimSeven
namespace Go.Proofs.YtjhfiaheknhodaaDoor
namespace Rows

/-- THE TIED CARD OF 'bitcastlaw19.DetectBoth'. -/
def detectBothCard : Claim7 := { stood := { row := detectBothRow, standIns := [], harness := (true, "41819a6bbf9c94262bce982920466dd8b564ebe21df7eaf67676cbcd81f84611"), looks := false }, kinds := [], alts := [], laidByText := true, laidKinds := [.data], laidTests := true, laidLooks := .later }
def DetectBothCardSaid : Prop := Claim7.holds Tryd.pinned (.plain (OpenSpec.ofChange detectBothSpec)) detectBothCard

/-- THE TIED CARD OF 'bitcastlaw19.DetectComes'. -/
def detectComesCard : Claim7 := { stood := { row := detectComesRow, standIns := [], harness := (true, "41819a6bbf9c94262bce982920466dd8b564ebe21df7eaf67676cbcd81f84611"), looks := false }, kinds := [], alts := [], laidByText := true, laidKinds := [.data], laidTests := true, laidLooks := .later }
def DetectComesCardSaid : Prop := Claim7.holds Tryd.pinned (.plain (OpenSpec.ofChange detectComesSpec)) detectComesCard

/-- THE TIED CARD OF 'bitcastlaw19.DetectStays'. -/
def detectStaysCard : Claim7 := { stood := { row := detectStaysRow, standIns := [], harness := (true, "41819a6bbf9c94262bce982920466dd8b564ebe21df7eaf67676cbcd81f84611"), looks := false }, kinds := [], alts := [], laidByText := true, laidKinds := [.data], laidTests := true, laidLooks := .later }
def DetectStaysCardSaid : Prop := Claim7.holds Tryd.pinned (.plain (OpenSpec.ofChange detectStaysSpec)) detectStaysCard

/-- THE TIED CARD OF 'bitcastlaw19.DetectHears'. -/
def detectHearsCard : Claim7 := { stood := { row := detectHearsRow, standIns := [], harness := (true, "41819a6bbf9c94262bce982920466dd8b564ebe21df7eaf67676cbcd81f84611"), looks := false }, kinds := [], alts := [], laidByText := true, laidKinds := [.data], laidTests := true, laidLooks := .later }
def DetectHearsCardSaid : Prop := Claim7.holds Tryd.pinned (.plain (OpenSpec.ofChange detectHearsSpec)) detectHearsCard

/-- THE TIED CARD OF 'bitcastlaw19.DetectSteps'. -/
def detectStepsCard : Claim7 := { stood := { row := detectStepsRow, standIns := [], harness := (true, "41819a6bbf9c94262bce982920466dd8b564ebe21df7eaf67676cbcd81f84611"), looks := false }, kinds := [], alts := [], laidByText := true, laidKinds := [.data], laidTests := true, laidLooks := .later }
def DetectStepsCardSaid : Prop := Claim7.holds Tryd.pinned (.plain (OpenSpec.ofChange detectStepsSpec)) detectStepsCard

/-- THE TIED CARD OF 'bitcastlaw19.DetectNotices'. -/
def detectNoticesCard : Claim7 := { stood := { row := detectNoticesRow, standIns := [], harness := (true, "41819a6bbf9c94262bce982920466dd8b564ebe21df7eaf67676cbcd81f84611"), looks := false }, kinds := [], alts := [], laidByText := true, laidKinds := [.data], laidTests := true, laidLooks := .later }
def DetectNoticesCardSaid : Prop := Claim7.holds Tryd.pinned (.plain (OpenSpec.ofChange detectNoticesSpec)) detectNoticesCard

/-- THE TIED CARD OF 'bitcastlaw19.DetectPlays'. -/
def detectPlaysCard : Claim7 := { stood := { row := detectPlaysRow, standIns := [], harness := (true, "41819a6bbf9c94262bce982920466dd8b564ebe21df7eaf67676cbcd81f84611"), looks := false }, kinds := [], alts := [], laidByText := true, laidKinds := [.data], laidTests := true, laidLooks := .later }
def DetectPlaysCardSaid : Prop := Claim7.holds Tryd.pinned (.plain (OpenSpec.ofChange detectPlaysSpec)) detectPlaysCard

/-- THE SECOND FORM's CARD OF 'bitcastlaw19.DetectBoth'. -/
def detectBothUptoCard : Claim7 := { stood := { row := detectBothUptoRow, standIns := [], harness := (true, "41819a6bbf9c94262bce982920466dd8b564ebe21df7eaf67676cbcd81f84611"), looks := false }, kinds := [], alts := [], laidByText := true, laidKinds := [.data], laidTests := true, laidLooks := .later }
def DetectBothUptoCardSaid : Prop := Claim7.holds Tryd.pinned (.plain (OpenSpec.upto detectBothSpec)) detectBothUptoCard

/-- THE SECOND FORM's CARD OF 'bitcastlaw19.DetectComes'. -/
def detectComesUptoCard : Claim7 := { stood := { row := detectComesUptoRow, standIns := [], harness := (true, "41819a6bbf9c94262bce982920466dd8b564ebe21df7eaf67676cbcd81f84611"), looks := false }, kinds := [], alts := [], laidByText := true, laidKinds := [.data], laidTests := true, laidLooks := .later }
def DetectComesUptoCardSaid : Prop := Claim7.holds Tryd.pinned (.plain (OpenSpec.upto detectComesSpec)) detectComesUptoCard

/-- THE SECOND FORM's CARD OF 'bitcastlaw19.DetectStays'. -/
def detectStaysUptoCard : Claim7 := { stood := { row := detectStaysUptoRow, standIns := [], harness := (true, "41819a6bbf9c94262bce982920466dd8b564ebe21df7eaf67676cbcd81f84611"), looks := false }, kinds := [], alts := [], laidByText := true, laidKinds := [.data], laidTests := true, laidLooks := .later }
def DetectStaysUptoCardSaid : Prop := Claim7.holds Tryd.pinned (.plain (OpenSpec.upto detectStaysSpec)) detectStaysUptoCard

/-- THE SECOND FORM's CARD OF 'bitcastlaw19.DetectHears'. -/
def detectHearsUptoCard : Claim7 := { stood := { row := detectHearsUptoRow, standIns := [], harness := (true, "41819a6bbf9c94262bce982920466dd8b564ebe21df7eaf67676cbcd81f84611"), looks := false }, kinds := [], alts := [], laidByText := true, laidKinds := [.data], laidTests := true, laidLooks := .later }
def DetectHearsUptoCardSaid : Prop := Claim7.holds Tryd.pinned (.plain (OpenSpec.upto detectHearsSpec)) detectHearsUptoCard

/-- THE SECOND FORM's CARD OF 'bitcastlaw19.DetectSteps'. -/
def detectStepsUptoCard : Claim7 := { stood := { row := detectStepsUptoRow, standIns := [], harness := (true, "41819a6bbf9c94262bce982920466dd8b564ebe21df7eaf67676cbcd81f84611"), looks := false }, kinds := [], alts := [], laidByText := true, laidKinds := [.data], laidTests := true, laidLooks := .later }
def DetectStepsUptoCardSaid : Prop := Claim7.holds Tryd.pinned (.plain (OpenSpec.upto detectStepsSpec)) detectStepsUptoCard

/-- THE SECOND FORM's CARD OF 'bitcastlaw19.DetectNotices'. -/
def detectNoticesUptoCard : Claim7 := { stood := { row := detectNoticesUptoRow, standIns := [], harness := (true, "41819a6bbf9c94262bce982920466dd8b564ebe21df7eaf67676cbcd81f84611"), looks := false }, kinds := [], alts := [], laidByText := true, laidKinds := [.data], laidTests := true, laidLooks := .later }
def DetectNoticesUptoCardSaid : Prop := Claim7.holds Tryd.pinned (.plain (OpenSpec.upto detectNoticesSpec)) detectNoticesUptoCard

/-- THE SECOND FORM's CARD OF 'bitcastlaw19.DetectPlays'. -/
def detectPlaysUptoCard : Claim7 := { stood := { row := detectPlaysUptoRow, standIns := [], harness := (true, "41819a6bbf9c94262bce982920466dd8b564ebe21df7eaf67676cbcd81f84611"), looks := false }, kinds := [], alts := [], laidByText := true, laidKinds := [.data], laidTests := true, laidLooks := .later }
def DetectPlaysUptoCardSaid : Prop := Claim7.holds Tryd.pinned (.plain (OpenSpec.upto detectPlaysSpec)) detectPlaysUptoCard
end Rows
end Go.Proofs.YtjhfiaheknhodaaDoor
