/- Proved is the tied card of the law SignalAnswers: for every input the law returns true, and each argument reads as it did; the four package variables that the row lists hold what the text lays, and the card ties that to the text. -/
import Derived.Test.YtjimcfblobcimaaDoorRunQ
import Derived.Test.YtjimcfblobcimaaDoorTie
import Derived.Test.YtjimcfblobcimaaDoorCards
set_option linter.unusedVariables false
set_option linter.unusedSimpArgs false
/- Chapter 25: the row and the card of SignalAnswers. -/
namespace Go.Proofs.YtjimcfblobcimaaDoor
open Go.ChangeShapes Go.WideShapes Go.ChangeAt Go.RowKit Go.Abs Go.Abs.C25

set_option maxRecDepth 100000 in
theorem SignalAnswers_lifted (os : Os) (started : os.Started) (H : Type) (enc : TypeId × Value → H) :
    ReturnsInHanded {} Tryd.checked os 6 .any (fun w args => (Rows.signalAnswersSpec.pre enc Tryd.prog Tryd.f6 Rows.signalAnswersRow.domain false w args ∧ laidMet Tryd.prog Rows.signalAnswersRow.laid w) ∧ sizedMet enc Tryd.prog Tryd.f6 (OpenSpec.ofChange Rows.signalAnswersSpec) false w args)
      (Rows.signalAnswersSpec.post enc Tryd.prog Tryd.f6 false true false false) := by
  refine returnsInHanded_of_change_and (C := Tryd.checked) (X := fun w _ => laidMet Tryd.prog Rows.signalAnswersRow.laid w) (fun _ _ _ hh h => h.of_heap hh) Tryd.own started (by kernel_rfl) Tryd.func6
    (ChangeSpec.witness_at (enc := enc) (C := Tryd.checked) (os := os) (X := fun w _ => laidMet Tryd.prog Rows.signalAnswersRow.laid w) false (laidWorld os) #[.slice none 0 0, .agg #[.int .i64 0, .int .i64 0, .int .i64 0, .int .i64 0, .int .i64 0, .int .i64 0, .int .i64 0, .int .i64 0, .int .i64 0, .slice none 0 0]] 8 rfl (by kernel_rfl) (by kernel_rfl) (by kernel_rfl) (by kernel_rfl) (by kernel_rfl) (laid_met os _)) ?_
  intro W base args ds gs before hval hW _ hwt hL _
  exact law_row 8 [.sl (.int .i64), .st 96 (.cons (.int .i64) (.cons (.int .i64) (.cons (.int .i64) (.cons (.int .i64) (.cons (.int .i64) (.cons (.int .i64) (.cons (.int .i64) (.cons (.int .i64) (.cons (.st 32 (.cons (.int .i64) (.cons (.sl (.int .i64)) .unit))) .unit)))))))))] ok6 rfl Tryd.laidOut (by kernel_rfl) (by kernel_rfl) rfl (by kernel_rfl) (tb := 4) (by kernel_rfl)
    (fun ds hd => by
      match ds, hd with
      | [d1, d2], _ => rfl) (glob_ok hL) hval hW hwt

set_option maxRecDepth 100000 in
theorem SignalAnswers_holds : Rows.SignalAnswersSaid :=
  OpenClaim.holds_of_wide 6 Tryd.f6 rfl rfl rfl rfl rfl rfl rfl ⟨rfl, rfl, rfl, rfl, rfl⟩ rfl rfl rfl rfl rfl (by kernel_rfl) Tryd.func6 (by kernel_rfl)
    (of_decide_eq_true (by kernel_rfl)) (by unfold Func.isWrapper; first | (rw [if_pos (by decide +kernel)]; kernel_rfl) | (rw [if_neg (by decide +kernel)]; exact ⟨rfl, rfl⟩))
    (fun os started H enc _ => SignalAnswers_lifted os started H enc)

set_option maxRecDepth 100000 in
theorem SignalAnswers_card : Rows.SignalAnswersCardSaid :=
  Claim7.holds_tied_plain_at .later [] [.data, .data, .data, .data] true (true, "4ea42f918b6252f00df619045aeba685ffba2f7f6a37340fcdf1fa63440f9964") false
    SignalAnswers_holds (fun _ h => by cases h) (by kernel_rfl) (fun _ h => by cases h) signalAnswers_row_tie rfl ⟨rfl, rfl⟩ (by kernel_rfl) rfl
    (fun f fn hf hfn => by
      obtain rfl : f = 6 := Option.some.inj ((show Tryd.prog.funcNamed "bitcast/bitcastlaw25.SignalAnswers" = some 6 by kernel_rfl).symm.trans hf) |>.symm
      obtain rfl : fn = Tryd.f6 := (Option.some.inj (Tryd.func6.symm.trans hfn)).symm
      exact ⟨by kernel_rfl, fun j t ht => by
        have : (Tryd.f6.params.toList.all fun t => !Tryd.prog.wantsStandIn t) = true := by kernel_rfl
        have := List.all_eq_true.1 this t (List.mem_of_getElem? (by simpa using ht))
        show Tryd.prog.wantsStandIn t = false
        simpa using this⟩)
    (by kernel_rfl)
end Go.Proofs.YtjimcfblobcimaaDoor
