/- Proved is the tied card of the law ForwardLocal: for every input the law returns true, and each argument reads as it did; the package variable that the row lists holds what the text lays, and the card ties that to the text. -/
import Derived.Test.YtmpfafdaadhabaaDoorRunQ
import Derived.Test.YtmpfafdaadhabaaDoorTie
import Derived.Test.YtmpfafdaadhabaaDoorCards
set_option linter.unusedVariables false
set_option linter.unusedSimpArgs false
namespace Go.Proofs.YtmpfafdaadhabaaDoor
open Go.ChangeShapes Go.WideShapes Go.ChangeAt Go.RowKit Go.Abs Go.Abs.C13

set_option maxRecDepth 100000 in
theorem ForwardLocal_lifted (os : Os) (started : os.Started) (H : Type) (enc : TypeId × Value → H) :
    ReturnsInHanded {} Tryd.checked os 7 .any (fun w args => (Rows.forwardLocalSpec.pre enc Tryd.prog Tryd.f7 Rows.forwardLocalRow.domain false w args ∧ laidMet Tryd.prog Rows.forwardLocalRow.laid w) ∧ sizedMet enc Tryd.prog Tryd.f7 (OpenSpec.ofChange Rows.forwardLocalSpec) false w args)
      (Rows.forwardLocalSpec.post enc Tryd.prog Tryd.f7 false true false false) := by
  refine returnsInHanded_of_change_and (C := Tryd.checked) (X := fun w _ => laidMet Tryd.prog Rows.forwardLocalRow.laid w) (fun _ _ _ hh h => h.of_heap hh) Tryd.own started (by kernel_rfl) Tryd.func7
    (ChangeSpec.witness_at (enc := enc) (C := Tryd.checked) (os := os) (X := fun w _ => laidMet Tryd.prog Rows.forwardLocalRow.laid w) false (laidWorld os) #[.slice none 0 0, .agg #[.int .u64 0, .int .u64 0, .slice none 0 0], .agg #[.int .i64 0, .int .i64 0, .int .i64 0, .int .i64 0, .int .i64 0, .int .i64 0, .int .i64 0, .int .i64 0, .int .u64 0, .string ⟨#[]⟩], .int .i64 0] 8 rfl (by kernel_rfl) (by kernel_rfl) (by kernel_rfl) (by kernel_rfl) (by kernel_rfl) (laid_met os _)) ?_
  intro W base args ds gs before hval hW _ hwt hL _
  exact law_row 8 [.sl (.int .i64), .st 40 (.cons (.int .u64) (.cons (.int .u64) (.cons (.sl cpT) .unit))), pkT, .int .i64] ok7 rfl Tryd.laidOut (by kernel_rfl) (by kernel_rfl) rfl (by kernel_rfl) (tb := 4) (by kernel_rfl)
    (fun ds hd => by
      match ds, hd with
      | [d1, d2, d3, d4], _ => rfl) (glob_ok hL) hval hW hwt

set_option maxRecDepth 100000 in
theorem ForwardLocal_holds : Rows.ForwardLocalSaid :=
  OpenClaim.holds_of_wide 7 Tryd.f7 rfl rfl rfl rfl rfl rfl rfl ⟨rfl, rfl, rfl, rfl, rfl⟩ rfl rfl rfl rfl rfl (by kernel_rfl) Tryd.func7 (by kernel_rfl)
    (of_decide_eq_true (by kernel_rfl)) (by unfold Func.isWrapper; first | (rw [if_pos (by decide +kernel)]; kernel_rfl) | (rw [if_neg (by decide +kernel)]; exact ⟨rfl, rfl⟩))
    (fun os started H enc _ => ForwardLocal_lifted os started H enc)

set_option maxRecDepth 100000 in
theorem ForwardLocal_card : Rows.ForwardLocalCardSaid :=
  Claim7.holds_tied_plain_at .later [] [.data] true (true, "2a7623a7a1813104f3ae94582018a11af263d4e88501241f85eded4d736cb0d7") false
    ForwardLocal_holds (fun _ h => by cases h) (by kernel_rfl) (fun _ h => by cases h) forwardLocal_row_tie rfl ⟨rfl, rfl⟩ (by kernel_rfl) rfl
    (fun f fn hf hfn => by
      obtain rfl : f = 7 := Option.some.inj ((show Tryd.prog.funcNamed "bitcast/bitcastlaw13.ForwardLocal" = some 7 by kernel_rfl).symm.trans hf) |>.symm
      obtain rfl : fn = Tryd.f7 := (Option.some.inj (Tryd.func7.symm.trans hfn)).symm
      exact ⟨by kernel_rfl, fun j t ht => by
        have : (Tryd.f7.params.toList.all fun t => !Tryd.prog.wantsStandIn t) = true := by kernel_rfl
        have := List.all_eq_true.1 this t (List.mem_of_getElem? (by simpa using ht))
        show Tryd.prog.wantsStandIn t = false
        simpa using this⟩)
    (by kernel_rfl)
end Go.Proofs.YtmpfafdaadhabaaDoor
