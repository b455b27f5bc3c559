/-
  DERIVED. GIVEN WITH THE SEED: THE CARDS: each row of YtjimcfblobcimaaDoorRows.lean that lists a variable, with what it lists TIED to the program's text (the seventh form; the later family's looks); each row that meets fmt, with fmt's text TOLD by the authors' own Lean function (tested against real Go, not proved from fmt's source: count such statements apart). THE CARD IS WHAT COUNTS. Prove the row's statement (the work); the ties are given (YtjimcfblobcimaaDoorTie.lean); close each card by the builder's one call (the guide's Derived/Test/ToyasCard.lean, 'card_holds'). Laid BY PROGRAM, IN A SANDBOX (cutbox-door.mjs). By AI agents, Wed Nov 11 2026. No macro, syntax, notation, axiom, sorry.
-/
import Derived.Test.YtjimcfblobcimaaDoorRows
import GoSem.ClaimSeven
namespace Go.Proofs.YtjimcfblobcimaaDoor
namespace Rows

/-- THE TIED CARD OF 'bitcastlaw25.SignalDecodes'. -/
def signalDecodesCard : Claim7 := { stood := { row := signalDecodesRow, standIns := [], harness := (true, "4ea42f918b6252f00df619045aeba685ffba2f7f6a37340fcdf1fa63440f9964"), looks := false }, kinds := [], alts := [], laidByText := true, laidKinds := [.data, .data, .data, .data], laidTests := true, laidLooks := .later }
def SignalDecodesCardSaid : Prop := Claim7.holds Tryd.pinned (.plain (OpenSpec.ofChange signalDecodesSpec)) signalDecodesCard

/-- THE TIED CARD OF 'bitcastlaw25.SignalBack'. -/
def signalBackCard : Claim7 := { stood := { row := signalBackRow, standIns := [], harness := (true, "4ea42f918b6252f00df619045aeba685ffba2f7f6a37340fcdf1fa63440f9964"), looks := false }, kinds := [], alts := [], laidByText := true, laidKinds := [.data, .data, .data, .data], laidTests := true, laidLooks := .later }
def SignalBackCardSaid : Prop := Claim7.holds Tryd.pinned (.plain (OpenSpec.ofChange signalBackSpec)) signalBackCard

/-- THE TIED CARD OF 'bitcastlaw25.SignalDamage'. -/
def signalDamageCard : Claim7 := { stood := { row := signalDamageRow, standIns := [], harness := (true, "4ea42f918b6252f00df619045aeba685ffba2f7f6a37340fcdf1fa63440f9964"), looks := false }, kinds := [], alts := [], laidByText := true, laidKinds := [.data, .data, .data, .data], laidTests := true, laidLooks := .later }
def SignalDamageCardSaid : Prop := Claim7.holds Tryd.pinned (.plain (OpenSpec.ofChange signalDamageSpec)) signalDamageCard

/-- THE TIED CARD OF 'bitcastlaw25.SignalAnswers'. -/
def signalAnswersCard : Claim7 := { stood := { row := signalAnswersRow, standIns := [], harness := (true, "4ea42f918b6252f00df619045aeba685ffba2f7f6a37340fcdf1fa63440f9964"), looks := false }, kinds := [], alts := [], laidByText := true, laidKinds := [.data, .data, .data, .data], laidTests := true, laidLooks := .later }
def SignalAnswersCardSaid : Prop := Claim7.holds Tryd.pinned (.plain (OpenSpec.ofChange signalAnswersSpec)) signalAnswersCard

/-- THE SECOND FORM's CARD OF 'bitcastlaw25.SignalDecodes'. -/
def signalDecodesUptoCard : Claim7 := { stood := { row := signalDecodesUptoRow, standIns := [], harness := (true, "4ea42f918b6252f00df619045aeba685ffba2f7f6a37340fcdf1fa63440f9964"), looks := false }, kinds := [], alts := [], laidByText := true, laidKinds := [.data, .data, .data, .data], laidTests := true, laidLooks := .later }
def SignalDecodesUptoCardSaid : Prop := Claim7.holds Tryd.pinned (.plain (OpenSpec.upto signalDecodesSpec)) signalDecodesUptoCard

/-- THE SECOND FORM's CARD OF 'bitcastlaw25.SignalBack'. -/
def signalBackUptoCard : Claim7 := { stood := { row := signalBackUptoRow, standIns := [], harness := (true, "4ea42f918b6252f00df619045aeba685ffba2f7f6a37340fcdf1fa63440f9964"), looks := false }, kinds := [], alts := [], laidByText := true, laidKinds := [.data, .data, .data, .data], laidTests := true, laidLooks := .later }
def SignalBackUptoCardSaid : Prop := Claim7.holds Tryd.pinned (.plain (OpenSpec.upto signalBackSpec)) signalBackUptoCard

/-- THE SECOND FORM's CARD OF 'bitcastlaw25.SignalDamage'. -/
def signalDamageUptoCard : Claim7 := { stood := { row := signalDamageUptoRow, standIns := [], harness := (true, "4ea42f918b6252f00df619045aeba685ffba2f7f6a37340fcdf1fa63440f9964"), looks := false }, kinds := [], alts := [], laidByText := true, laidKinds := [.data, .data, .data, .data], laidTests := true, laidLooks := .later }
def SignalDamageUptoCardSaid : Prop := Claim7.holds Tryd.pinned (.plain (OpenSpec.upto signalDamageSpec)) signalDamageUptoCard

/-- THE SECOND FORM's CARD OF 'bitcastlaw25.SignalAnswers'. -/
def signalAnswersUptoCard : Claim7 := { stood := { row := signalAnswersUptoRow, standIns := [], harness := (true, "4ea42f918b6252f00df619045aeba685ffba2f7f6a37340fcdf1fa63440f9964"), looks := false }, kinds := [], alts := [], laidByText := true, laidKinds := [.data, .data, .data, .data], laidTests := true, laidLooks := .later }
def SignalAnswersUptoCardSaid : Prop := Claim7.holds Tryd.pinned (.plain (OpenSpec.upto signalAnswersSpec)) signalAnswersUptoCard
end Rows
end Go.Proofs.YtjimcfblobcimaaDoor
