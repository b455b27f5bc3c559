/-
  DERIVED. GIVEN WITH THE SEED: THE CARDS: each row of YtpdbnojanodkbaaDoorRows.lean that lists a variable, with what it lists TIED to the program's text (the seventh form; the later family's looks); each row that meets fmt, with fmt's text TOLD by the authors' own Lean function (tested against real Go, not proved from fmt's source: count such statements apart). THE CARD IS WHAT COUNTS. Prove the row's statement (the work); the ties are given (YtpdbnojanodkbaaDoorTie.lean); close each card by the builder's one call (the guide's Derived/Test/ToyasCard.lean, 'card_holds'). Laid BY PROGRAM, IN A SANDBOX (cutbox-door.mjs). By AI agents, Wed Nov 11 2026. No macro, syntax, notation, axiom, sorry.
-/
import Derived.Test.YtpdbnojanodkbaaDoorRows
import GoSem.ClaimSeven
namespace Go.Proofs.YtpdbnojanodkbaaDoor
namespace Rows

/-- THE TIED CARD OF 'bitcastlaw01.BitsetLengths'. -/
def bitsetLengthsCard : Claim7 := { stood := { row := bitsetLengthsRow, standIns := [], harness := (true, "04e37fff80f6f3344ccd1199b02ec5afd619a534cdcd943af6eed12ec6daf3b1"), looks := false }, kinds := [], alts := [], laidByText := true, laidKinds := [.data], laidTests := true, laidLooks := .later }
def BitsetLengthsCardSaid : Prop := Claim7.holds Tryd.pinned (.plain (OpenSpec.ofChange bitsetLengthsSpec)) bitsetLengthsCard

/-- THE TIED CARD OF 'bitcastlaw01.BitsetCounts'. -/
def bitsetCountsCard : Claim7 := { stood := { row := bitsetCountsRow, standIns := [], harness := (true, "04e37fff80f6f3344ccd1199b02ec5afd619a534cdcd943af6eed12ec6daf3b1"), looks := false }, kinds := [], alts := [], laidByText := true, laidKinds := [.data], laidTests := true, laidLooks := .later }
def BitsetCountsCardSaid : Prop := Claim7.holds Tryd.pinned (.plain (OpenSpec.ofChange bitsetCountsSpec)) bitsetCountsCard

/-- THE TIED CARD OF 'bitcastlaw01.BitsetSplits'. -/
def bitsetSplitsCard : Claim7 := { stood := { row := bitsetSplitsRow, standIns := [], harness := (true, "04e37fff80f6f3344ccd1199b02ec5afd619a534cdcd943af6eed12ec6daf3b1"), looks := false }, kinds := [], alts := [], laidByText := true, laidKinds := [.data], laidTests := true, laidLooks := .later }
def BitsetSplitsCardSaid : Prop := Claim7.holds Tryd.pinned (.plain (OpenSpec.ofChange bitsetSplitsSpec)) bitsetSplitsCard

/-- THE TIED CARD OF 'bitcastlaw01.BitsetRanks'. -/
def bitsetRanksCard : Claim7 := { stood := { row := bitsetRanksRow, standIns := [], harness := (true, "04e37fff80f6f3344ccd1199b02ec5afd619a534cdcd943af6eed12ec6daf3b1"), looks := false }, kinds := [], alts := [], laidByText := true, laidKinds := [.data], laidTests := true, laidLooks := .later }
def BitsetRanksCardSaid : Prop := Claim7.holds Tryd.pinned (.plain (OpenSpec.ofChange bitsetRanksSpec)) bitsetRanksCard

/-- THE TIED CARD OF 'bitcastlaw01.BitsetSpreads'. -/
def bitsetSpreadsCard : Claim7 := { stood := { row := bitsetSpreadsRow, standIns := [], harness := (true, "04e37fff80f6f3344ccd1199b02ec5afd619a534cdcd943af6eed12ec6daf3b1"), looks := false }, kinds := [], alts := [], laidByText := true, laidKinds := [.data], laidTests := true, laidLooks := .later }
def BitsetSpreadsCardSaid : Prop := Claim7.holds Tryd.pinned (.plain (OpenSpec.ofChange bitsetSpreadsSpec)) bitsetSpreadsCard

/-- THE TIED CARD OF 'bitcastlaw01.BitsetTexts'. -/
def bitsetTextsCard : Claim7 := { stood := { row := bitsetTextsRow, standIns := [], harness := (true, "04e37fff80f6f3344ccd1199b02ec5afd619a534cdcd943af6eed12ec6daf3b1"), looks := false }, kinds := [], alts := [], laidByText := true, laidKinds := [.data], laidTests := true, laidLooks := .later }
def BitsetTextsCardSaid : Prop := Claim7.holds Tryd.pinned (.plain (OpenSpec.ofChange bitsetTextsSpec)) bitsetTextsCard

/-- THE TIED CARD OF 'bitcastlaw01.BitsetBytes'. -/
def bitsetBytesCard : Claim7 := { stood := { row := bitsetBytesRow, standIns := [], harness := (true, "04e37fff80f6f3344ccd1199b02ec5afd619a534cdcd943af6eed12ec6daf3b1"), looks := false }, kinds := [], alts := [], laidByText := true, laidKinds := [.data], laidTests := true, laidLooks := .later }
def BitsetBytesCardSaid : Prop := Claim7.holds Tryd.pinned (.plain (OpenSpec.ofChange bitsetBytesSpec)) bitsetBytesCard

/-- THE TIED CARD OF 'bitcastlaw01.BitsetOf'. -/
def bitsetOfCard : Claim7 := { stood := { row := bitsetOfRow, standIns := [], harness := (true, "04e37fff80f6f3344ccd1199b02ec5afd619a534cdcd943af6eed12ec6daf3b1"), looks := false }, kinds := [], alts := [], laidByText := true, laidKinds := [.data], laidTests := true, laidLooks := .later }
def BitsetOfCardSaid : Prop := Claim7.holds Tryd.pinned (.plain (OpenSpec.ofChange bitsetOfSpec)) bitsetOfCard

/-- THE SECOND FORM's CARD OF 'bitcastlaw01.BitsetLengths'. -/
def bitsetLengthsUptoCard : Claim7 := { stood := { row := bitsetLengthsUptoRow, standIns := [], harness := (true, "04e37fff80f6f3344ccd1199b02ec5afd619a534cdcd943af6eed12ec6daf3b1"), looks := false }, kinds := [], alts := [], laidByText := true, laidKinds := [.data], laidTests := true, laidLooks := .later }
def BitsetLengthsUptoCardSaid : Prop := Claim7.holds Tryd.pinned (.plain (OpenSpec.upto bitsetLengthsSpec)) bitsetLengthsUptoCard

/-- THE SECOND FORM's CARD OF 'bitcastlaw01.BitsetCounts'. -/
def bitsetCountsUptoCard : Claim7 := { stood := { row := bitsetCountsUptoRow, standIns := [], harness := (true, "04e37fff80f6f3344ccd1199b02ec5afd619a534cdcd943af6eed12ec6daf3b1"), looks := false }, kinds := [], alts := [], laidByText := true, laidKinds := [.data], laidTests := true, laidLooks := .later }
def BitsetCountsUptoCardSaid : Prop := Claim7.holds Tryd.pinned (.plain (OpenSpec.upto bitsetCountsSpec)) bitsetCountsUptoCard

/-- THE SECOND FORM's CARD OF 'bitcastlaw01.BitsetSplits'. -/
def bitsetSplitsUptoCard : Claim7 := { stood := { row := bitsetSplitsUptoRow, standIns := [], harness := (true, "04e37fff80f6f3344ccd1199b02ec5afd619a534cdcd943af6eed12ec6daf3b1"), looks := false }, kinds := [], alts := [], laidByText := true, laidKinds := [.data], laidTests := true, laidLooks := .later }
def BitsetSplitsUptoCardSaid : Prop := Claim7.holds Tryd.pinned (.plain (OpenSpec.upto bitsetSplitsSpec)) bitsetSplitsUptoCard

/-- THE SECOND FORM's CARD OF 'bitcastlaw01.BitsetRanks'. -/
def bitsetRanksUptoCard : Claim7 := { stood := { row := bitsetRanksUptoRow, standIns := [], harness := (true, "04e37fff80f6f3344ccd1199b02ec5afd619a534cdcd943af6eed12ec6daf3b1"), looks := false }, kinds := [], alts := [], laidByText := true, laidKinds := [.data], laidTests := true, laidLooks := .later }
def BitsetRanksUptoCardSaid : Prop := Claim7.holds Tryd.pinned (.plain (OpenSpec.upto bitsetRanksSpec)) bitsetRanksUptoCard

/-- THE SECOND FORM's CARD OF 'bitcastlaw01.BitsetSpreads'. -/
def bitsetSpreadsUptoCard : Claim7 := { stood := { row := bitsetSpreadsUptoRow, standIns := [], harness := (true, "04e37fff80f6f3344ccd1199b02ec5afd619a534cdcd943af6eed12ec6daf3b1"), looks := false }, kinds := [], alts := [], laidByText := true, laidKinds := [.data], laidTests := true, laidLooks := .later }
def BitsetSpreadsUptoCardSaid : Prop := Claim7.holds Tryd.pinned (.plain (OpenSpec.upto bitsetSpreadsSpec)) bitsetSpreadsUptoCard

/-- THE SECOND FORM's CARD OF 'bitcastlaw01.BitsetTexts'. -/
def bitsetTextsUptoCard : Claim7 := { stood := { row := bitsetTextsUptoRow, standIns := [], harness := (true, "04e37fff80f6f3344ccd1199b02ec5afd619a534cdcd943af6eed12ec6daf3b1"), looks := false }, kinds := [], alts := [], laidByText := true, laidKinds := [.data], laidTests := true, laidLooks := .later }
def BitsetTextsUptoCardSaid : Prop := Claim7.holds Tryd.pinned (.plain (OpenSpec.upto bitsetTextsSpec)) bitsetTextsUptoCard

/-- THE SECOND FORM's CARD OF 'bitcastlaw01.BitsetBytes'. -/
def bitsetBytesUptoCard : Claim7 := { stood := { row := bitsetBytesUptoRow, standIns := [], harness := (true, "04e37fff80f6f3344ccd1199b02ec5afd619a534cdcd943af6eed12ec6daf3b1"), looks := false }, kinds := [], alts := [], laidByText := true, laidKinds := [.data], laidTests := true, laidLooks := .later }
def BitsetBytesUptoCardSaid : Prop := Claim7.holds Tryd.pinned (.plain (OpenSpec.upto bitsetBytesSpec)) bitsetBytesUptoCard

/-- THE SECOND FORM's CARD OF 'bitcastlaw01.BitsetOf'. -/
def bitsetOfUptoCard : Claim7 := { stood := { row := bitsetOfUptoRow, standIns := [], harness := (true, "04e37fff80f6f3344ccd1199b02ec5afd619a534cdcd943af6eed12ec6daf3b1"), looks := false }, kinds := [], alts := [], laidByText := true, laidKinds := [.data], laidTests := true, laidLooks := .later }
def BitsetOfUptoCardSaid : Prop := Claim7.holds Tryd.pinned (.plain (OpenSpec.upto bitsetOfSpec)) bitsetOfUptoCard
end Rows
end Go.Proofs.YtpdbnojanodkbaaDoor
