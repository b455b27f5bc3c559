/- Proved is the tied card of the law SignalDamage: for every input the law returns true, and each argument reads as it did; the four package variables that the row lists hold what the text lays, and the card ties that to the text. -/
import Derived.Test.YtjimcfblobcimaaDoorRunQ
import Derived.Test.YtjimcfblobcimaaDoorTie
import Derived.Test.YtjimcfblobcimaaDoorCards
set_option linter.unusedVariables false
set_option linter.unusedSimpArgs false
/- Chapter 25: the row and the card of SignalDamage. -/
namespace Go.Proofs.YtjimcfblobcimaaDoor
open Go.ChangeShapes Go.WideShapes Go.ChangeAt Go.RowKit Go.Abs Go.Abs.C25

set_option maxRecDepth 100000 in
theorem SignalDamage_lifted (os : Os) (started : os.Started) (H : Type) (enc : TypeId × Value → H) :
    ReturnsInHanded {} Tryd.checked os 5 .any (fun w args => (Rows.signalDamageSpec.pre enc Tryd.prog Tryd.f5 Rows.signalDamageRow.domain false w args ∧ laidMet Tryd.prog Rows.signalDamageRow.laid w) ∧ sizedMet enc Tryd.prog Tryd.f5 (OpenSpec.ofChange Rows.signalDamageSpec) false w args)
      (Rows.signalDamageSpec.post enc Tryd.prog Tryd.f5 false true false false) := by
  refine returnsInHanded_of_change_and (C := Tryd.checked) (X := fun w _ => laidMet Tryd.prog Rows.signalDamageRow.laid w) (fun _ _ _ hh h => h.of_heap hh) Tryd.own started (by kernel_rfl) Tryd.func5
    (ChangeSpec.witness_at (enc := enc) (C := Tryd.checked) (os := os) (X := fun w _ => laidMet Tryd.prog Rows.signalDamageRow.laid w) false (laidWorld os) #[.slice none 0 0, .int .i64 0, .int .u8 0] 8 rfl (by kernel_rfl) (by kernel_rfl) (by kernel_rfl) (by kernel_rfl) (by kernel_rfl) (laid_met os _)) ?_
  intro W base args ds gs before hval hW _ hwt hL _
  exact law_row 8 [.sl (.int .i64), .int .i64, .int .u8] ok5 rfl Tryd.laidOut (by kernel_rfl) (by kernel_rfl) rfl (by kernel_rfl) (tb := 4) (by kernel_rfl)
    (fun ds hd => by
      match ds, hd with
      | [d1, d2, d3], _ => rfl) (glob_ok hL) hval hW hwt

set_option maxRecDepth 100000 in
theorem SignalDamage_holds : Rows.SignalDamageSaid :=
  OpenClaim.holds_of_wide 5 Tryd.f5 rfl rfl rfl rfl rfl rfl rfl ⟨rfl, rfl, rfl, rfl, rfl⟩ rfl rfl rfl rfl rfl (by kernel_rfl) Tryd.func5 (by kernel_rfl)
    (of_decide_eq_true (by kernel_rfl)) (by unfold Func.isWrapper; first | (rw [if_pos (by decide +kernel)]; kernel_rfl) | (rw [if_neg (by decide +kernel)]; exact ⟨rfl, rfl⟩))
    (fun os started H enc _ => SignalDamage_lifted os started H enc)

set_option maxRecDepth 100000 in
theorem SignalDamage_card : Rows.SignalDamageCardSaid :=
  Claim7.holds_tied_plain_at .later [] [.data, .data, .data, .data] true (true, "4ea42f918b6252f00df619045aeba685ffba2f7f6a37340fcdf1fa63440f9964") false
    SignalDamage_holds (fun _ h => by cases h) (by kernel_rfl) (fun _ h => by cases h) signalDamage_row_tie rfl ⟨rfl, rfl⟩ (by kernel_rfl) rfl
    (fun f fn hf hfn => by
      obtain rfl : f = 5 := Option.some.inj ((show Tryd.prog.funcNamed "bitcast/bitcastlaw25.SignalDamage" = some 5 by kernel_rfl).symm.trans hf) |>.symm
      obtain rfl : fn = Tryd.f5 := (Option.some.inj (Tryd.func5.symm.trans hfn)).symm
      exact ⟨by kernel_rfl, fun j t ht => by
        have : (Tryd.f5.params.toList.all fun t => !Tryd.prog.wantsStandIn t) = true := by kernel_rfl
        have := List.all_eq_true.1 this t (List.mem_of_getElem? (by simpa using ht))
        show Tryd.prog.wantsStandIn t = false
        simpa using this⟩)
    (by kernel_rfl)
end Go.Proofs.YtjimcfblobcimaaDoor
