/-
  DERIVED. GIVEN WITH THE SEED: THE PROGRAM's TIES (one call each: nine closed facts by the kernel) AND EACH ROW's TIE, after the 31st guide's Derived/Test/Toyas{Tie, Card}.lean. No idea stands in it: it is a product of the set-up. Laid BY PROGRAM, IN A SANDBOX (cutbox-door.mjs). By AI agents, Wed Nov 11 2026. No macro, syntax, notation, axiom, sorry.
-/
import Derived.Test.YtjimcfblobcimaaDoorRows
import Derived.LaidByTextLater
import Derived.SevenTiedAt
import Derived.LaidSub
import Derived.LaidOnce
namespace Go.Proofs.YtjimcfblobcimaaDoor
open Go
set_option maxRecDepth 100000
theorem seatTie1 : Tryd.prog.laidByTextLater [("bitcast/signal.zero", Rows.laid_bitcast_signal_zero), ("bitcast/signal.number", Rows.laid_bitcast_signal_number), ("bitcast/signal.first", Rows.laid_bitcast_signal_first), ("bitcast/signal.group", Rows.laid_bitcast_signal_group)] [.data, .data, .data, .data] true :=
  Program.laidByTextLater_by_one 29 8 3 (by kernel_rfl) (by kernel_rfl) (by kernel_rfl) (by kernel_rfl) (by kernel_rfl) (by kernel_rfl) (fun _ _ => by kernel_rfl)
theorem noOwnUnsafe : Tryd.pinned.checked.prog.headLifts.contains "ownunsafe" = false := by kernel_rfl
theorem tie : Tryd.prog.laidByTextLater [("bitcast/signal.zero", Rows.laid_bitcast_signal_zero), ("bitcast/signal.number", Rows.laid_bitcast_signal_number), ("bitcast/signal.first", Rows.laid_bitcast_signal_first), ("bitcast/signal.group", Rows.laid_bitcast_signal_group)] [.data, .data, .data, .data] true :=
  Program.laidByTextLater.sub seatTie1 ["bitcast/signal.zero", "bitcast/signal.number", "bitcast/signal.first", "bitcast/signal.group"] (by kernel_rfl) (by kernel_rfl)
theorem signalDecodes_row_tie : Rows.signalDecodesRow.laidByTextAt .later Tryd.pinned [.data, .data, .data, .data] true :=
  OpenClaim.laidByTextAt_later rfl rfl tie noOwnUnsafe
theorem signalBack_row_tie : Rows.signalBackRow.laidByTextAt .later Tryd.pinned [.data, .data, .data, .data] true :=
  OpenClaim.laidByTextAt_later rfl rfl tie noOwnUnsafe
theorem signalDamage_row_tie : Rows.signalDamageRow.laidByTextAt .later Tryd.pinned [.data, .data, .data, .data] true :=
  OpenClaim.laidByTextAt_later rfl rfl tie noOwnUnsafe
theorem signalAnswers_row_tie : Rows.signalAnswersRow.laidByTextAt .later Tryd.pinned [.data, .data, .data, .data] true :=
  OpenClaim.laidByTextAt_later rfl rfl tie noOwnUnsafe
theorem signalDecodesUpto_row_tie : Rows.signalDecodesUptoRow.laidByTextAt .later Tryd.pinned [.data, .data, .data, .data] true :=
  OpenClaim.laidByTextAt_later rfl rfl tie noOwnUnsafe
theorem signalBackUpto_row_tie : Rows.signalBackUptoRow.laidByTextAt .later Tryd.pinned [.data, .data, .data, .data] true :=
  OpenClaim.laidByTextAt_later rfl rfl tie noOwnUnsafe
theorem signalDamageUpto_row_tie : Rows.signalDamageUptoRow.laidByTextAt .later Tryd.pinned [.data, .data, .data, .data] true :=
  OpenClaim.laidByTextAt_later rfl rfl tie noOwnUnsafe
theorem signalAnswersUpto_row_tie : Rows.signalAnswersUptoRow.laidByTextAt .later Tryd.pinned [.data, .data, .data, .data] true :=
  OpenClaim.laidByTextAt_later rfl rfl tie noOwnUnsafe
end Go.Proofs.YtjimcfblobcimaaDoor
