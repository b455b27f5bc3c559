/- Proved is the tied card of the law BitsetSplits: for every input the law returns true, and each argument reads as it did; the one package variable that the row lists holds what the text lays, and the card ties that to the text. -/
import Derived.Test.YtpdbnojanodkbaaDoorRunQ
import Derived.Test.YtpdbnojanodkbaaDoorTie
import Derived.Test.YtpdbnojanodkbaaDoorCards
set_option linter.unusedVariables false
set_option linter.unusedSimpArgs false
/- Chapter 01: the row and the card of BitsetSplits. -/
namespace Go.Proofs.YtpdbnojanodkbaaDoor
open Go.ChangeShapes Go.WideShapes Go.ChangeAt Go.RowKit Go.Abs Go.Abs.C01

set_option maxRecDepth 100000 in
theorem BitsetSplits_lifted (os : Os) (started : os.Started) (H : Type) (enc : TypeId × Value → H) :
    ReturnsInHanded {} Tryd.checked os 5 .any (fun w args => (Rows.bitsetSplitsSpec.pre enc Tryd.prog Tryd.f5 Rows.bitsetSplitsRow.domain false w args ∧ laidMet Tryd.prog Rows.bitsetSplitsRow.laid w) ∧ sizedMet enc Tryd.prog Tryd.f5 (OpenSpec.ofChange Rows.bitsetSplitsSpec) false w args)
      (Rows.bitsetSplitsSpec.post enc Tryd.prog Tryd.f5 false true false false) := by
  refine returnsInHanded_of_change_and (C := Tryd.checked) (X := fun w _ => laidMet Tryd.prog Rows.bitsetSplitsRow.laid w) (fun _ _ _ hh h => h.of_heap hh) Tryd.own started (by kernel_rfl) Tryd.func5
    (ChangeSpec.witness_at (enc := enc) (C := Tryd.checked) (os := os) (X := fun w _ => laidMet Tryd.prog Rows.bitsetSplitsRow.laid w) false (laidWorld os) #[.slice none 0 0, .int .u64 0, .slice none 0 0] 8 rfl (by kernel_rfl) (by kernel_rfl) (by kernel_rfl) (by kernel_rfl) (by kernel_rfl) (laid_met os _)) ?_
  intro W base args ds gs before hval hW _ hwt hL _
  exact law_row 8 [.sl (.int .i64), .int .u64, .sl (.int .u64)] ok5 rfl Tryd.laidOut (by kernel_rfl) (by kernel_rfl) rfl (by kernel_rfl) (tb := 4) (by kernel_rfl)
    (fun ds hd => by
      match ds, hd with
      | [d1, d2, d3], _ => rfl) (glob_ok hL) hval hW hwt

set_option maxRecDepth 100000 in
theorem BitsetSplits_holds : Rows.BitsetSplitsSaid :=
  OpenClaim.holds_of_wide 5 Tryd.f5 rfl rfl rfl rfl rfl rfl rfl ⟨rfl, rfl, rfl, rfl, rfl⟩ rfl rfl rfl rfl rfl (by kernel_rfl) Tryd.func5 (by kernel_rfl)
    (of_decide_eq_true (by kernel_rfl)) (by unfold Func.isWrapper; first | (rw [if_pos (by decide +kernel)]; kernel_rfl) | (rw [if_neg (by decide +kernel)]; exact ⟨rfl, rfl⟩))
    (fun os started H enc _ => BitsetSplits_lifted os started H enc)

set_option maxRecDepth 100000 in
theorem BitsetSplits_card : Rows.BitsetSplitsCardSaid :=
  Claim7.holds_tied_plain_at .later [] [.data] true (true, "04e37fff80f6f3344ccd1199b02ec5afd619a534cdcd943af6eed12ec6daf3b1") false
    BitsetSplits_holds (fun _ h => by cases h) (by kernel_rfl) (fun _ h => by cases h) bitsetSplits_row_tie rfl ⟨rfl, rfl⟩ (by kernel_rfl) rfl
    (fun f fn hf hfn => by
      obtain rfl : f = 5 := Option.some.inj ((show Tryd.prog.funcNamed "bitcast/bitcastlaw01.BitsetSplits" = some 5 by kernel_rfl).symm.trans hf) |>.symm
      obtain rfl : fn = Tryd.f5 := (Option.some.inj (Tryd.func5.symm.trans hfn)).symm
      exact ⟨by kernel_rfl, fun j t ht => by
        have : (Tryd.f5.params.toList.all fun t => !Tryd.prog.wantsStandIn t) = true := by kernel_rfl
        have := List.all_eq_true.1 this t (List.mem_of_getElem? (by simpa using ht))
        show Tryd.prog.wantsStandIn t = false
        simpa using this⟩)
    (by kernel_rfl)
end Go.Proofs.YtpdbnojanodkbaaDoor
