/- Proved is the statement of the law IdentifyCounts: for every input the law returns true, and each argument reads as it did. -/
import Derived.Test.YtihhljodjndbeaaRunQ
set_option linter.unusedVariables false
set_option linter.unusedSimpArgs false
namespace Go.Abs.C10
open Go Go.Proofs
set_option maxRecDepth 100000
theorem ok8 : FunOk Try.prog B 8 c8 := glue L16 all16 plan8 Try.func8 (by kernel_rfl) (by
  rintro ⟨⟨⟩, a0, a1, a2, ⟨⟩⟩ y r h
  exact (g8_eq a0 a1 a2).trans ((g8_ok a0 a1 a2 r.2.1 r.2.2.1 r.2.2.2.1).trans h))
end Go.Abs.C10

namespace Go.Proofs.Ytihhljodjndbeaa
open Go.ChangeShapes Go.WideShapes Go.ChangeAt Go.RowKit Go.Abs Go.Abs.C10

set_option maxRecDepth 100000 in
theorem IdentifyCounts_lifted (os : Os) (started : os.Started) (H : Type) (enc : TypeId × Value → H) :
    ReturnsInHanded {} Try.checked os 8 .any (fun w args => (Rows.identifyCountsSpec.pre enc Try.prog Try.f8 Rows.identifyCountsRow.domain false w args ∧ True) ∧ sizedMet enc Try.prog Try.f8 (OpenSpec.ofChange Rows.identifyCountsSpec) false w args)
      (Rows.identifyCountsSpec.post enc Try.prog Try.f8 false true false false) := by
  refine returnsInHanded_of_change_and (C := Try.checked) (X := fun _ _ => True) (fun _ _ _ _ _ => trivial) Try.own started (by kernel_rfl) Try.func8
    (ChangeSpec.witness_at (enc := enc) (C := Try.checked) (os := os) (X := fun _ _ => True) false (laidWorld os) #[.slice none 0 0, .slice none 0 0, .int .i64 0] 8 rfl (by kernel_rfl) (by kernel_rfl) (by kernel_rfl) (by kernel_rfl) (by kernel_rfl) trivial) ?_
  intro W base args ds gs before hval hW _ hwt hL _
  exact law_row 8 [.sl (.int .i64), .sl owT, .int .i64] ok8 rfl Try.laidOut (by kernel_rfl) (by kernel_rfl) rfl (by kernel_rfl) (tb := 4) (by kernel_rfl)
    (fun ds hd => by
      match ds, hd with
      | [d1, d2, d3], _ => rfl) glob_ok hval hW hwt

theorem IdentifyCounts_holds : Rows.IdentifyCountsSaid :=
  OpenClaim.holds_of_wide 8 Try.f8 rfl rfl rfl rfl rfl rfl rfl ⟨rfl, rfl, rfl, rfl, rfl⟩ rfl rfl rfl rfl rfl (by kernel_rfl) Try.func8 (by kernel_rfl)
    (of_decide_eq_true (by kernel_rfl)) (by unfold Func.isWrapper; first | (rw [if_pos (by decide +kernel)]; kernel_rfl) | (rw [if_neg (by decide +kernel)]; exact ⟨rfl, rfl⟩))
    (fun os started H enc _ => by
      show ReturnsInHanded {} Try.checked os 8 .any (fun w args => Rows.identifyCountsSpec.pre enc Try.prog Try.f8 Rows.identifyCountsRow.domain false w args ∧ sizedMet enc Try.prog Try.f8 (OpenSpec.ofChange Rows.identifyCountsSpec) false w args) (Rows.identifyCountsSpec.post enc Try.prog Try.f8 false true false false)
      have h := IdentifyCounts_lifted os started H enc
      simp only [and_true] at h
      exact h)
end Go.Proofs.Ytihhljodjndbeaa
