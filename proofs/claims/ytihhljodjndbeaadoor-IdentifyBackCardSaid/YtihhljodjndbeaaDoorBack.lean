/- Proved is the tied card of the law IdentifyBack: for every input the law returns true, and each argument reads as it did; the package variable that the row lists holds what the text lays, and the card ties that to the text. -/
import Derived.Test.YtihhljodjndbeaaDoorRunQ
import Derived.Test.YtihhljodjndbeaaDoorTie
import Derived.Test.YtihhljodjndbeaaDoorCards
set_option linter.unusedVariables false
set_option linter.unusedSimpArgs false
namespace Go.Proofs.YtihhljodjndbeaaDoor
open Go.ChangeShapes Go.WideShapes Go.ChangeAt Go.RowKit Go.Abs Go.Abs.C1D

set_option maxRecDepth 100000 in
theorem IdentifyBack_lifted (os : Os) (started : os.Started) (H : Type) (enc : TypeId × Value → H) :
    ReturnsInHanded {} Tryd.checked os 4 .any (fun w args => (Rows.identifyBackSpec.pre enc Tryd.prog Tryd.f4 Rows.identifyBackRow.domain false w args ∧ laidMet Tryd.prog Rows.identifyBackRow.laid w) ∧ sizedMet enc Tryd.prog Tryd.f4 (OpenSpec.ofChange Rows.identifyBackSpec) false w args)
      (Rows.identifyBackSpec.post enc Tryd.prog Tryd.f4 false true false false) := by
  refine returnsInHanded_of_change_and (C := Tryd.checked) (X := fun w _ => laidMet Tryd.prog Rows.identifyBackRow.laid w) (fun _ _ _ hh h => h.of_heap hh) Tryd.own started (by kernel_rfl) Tryd.func4
    (ChangeSpec.witness_at (enc := enc) (C := Tryd.checked) (os := os) (X := fun w _ => laidMet Tryd.prog Rows.identifyBackRow.laid w) false (laidWorld os) #[.slice none 0 0] 8 rfl (by kernel_rfl) (by kernel_rfl) (by kernel_rfl) (by kernel_rfl) (by kernel_rfl) (laid_met os _)) ?_
  intro W base args ds gs before hval hW _ hwt hL _
  exact law_row 8 [.sl (.int .i64)] ok4 rfl Tryd.laidOut (by kernel_rfl) (by kernel_rfl) rfl (by kernel_rfl) (tb := 4) (by kernel_rfl)
    (fun ds hd => by
      match ds, hd with
      | [d1], _ => rfl) (glob_ok hL) hval hW hwt

set_option maxRecDepth 100000 in
theorem IdentifyBack_holds : Rows.IdentifyBackSaid :=
  OpenClaim.holds_of_wide 4 Tryd.f4 rfl rfl rfl rfl rfl rfl rfl ⟨rfl, rfl, rfl, rfl, rfl⟩ rfl rfl rfl rfl rfl (by kernel_rfl) Tryd.func4 (by kernel_rfl)
    (of_decide_eq_true (by kernel_rfl)) (by unfold Func.isWrapper; first | (rw [if_pos (by decide +kernel)]; kernel_rfl) | (rw [if_neg (by decide +kernel)]; exact ⟨rfl, rfl⟩))
    (fun os started H enc _ => IdentifyBack_lifted os started H enc)

set_option maxRecDepth 100000 in
theorem IdentifyBack_card : Rows.IdentifyBackCardSaid :=
  Claim7.holds_tied_plain_at .later [] [.data] true (true, "cb4c564ccf33e082d7389797a60748e166abb50c848c60f4c29d4e6786c84667") false
    IdentifyBack_holds (fun _ h => by cases h) (by kernel_rfl) (fun _ h => by cases h) identifyBack_row_tie rfl ⟨rfl, rfl⟩ (by kernel_rfl) rfl
    (fun f fn hf hfn => by
      obtain rfl : f = 4 := Option.some.inj ((show Tryd.prog.funcNamed "bitcast/bitcastlaw10.IdentifyBack" = some 4 by kernel_rfl).symm.trans hf) |>.symm
      obtain rfl : fn = Tryd.f4 := (Option.some.inj (Tryd.func4.symm.trans hfn)).symm
      exact ⟨by kernel_rfl, fun j t ht => by
        have : (Tryd.f4.params.toList.all fun t => !Tryd.prog.wantsStandIn t) = true := by kernel_rfl
        have := List.all_eq_true.1 this t (List.mem_of_getElem? (by simpa using ht))
        show Tryd.prog.wantsStandIn t = false
        simpa using this⟩)
    (by kernel_rfl)
end Go.Proofs.YtihhljodjndbeaaDoor
