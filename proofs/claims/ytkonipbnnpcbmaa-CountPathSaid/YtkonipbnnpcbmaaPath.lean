/- Proved is the statement of the law CountPath: for every input the law returns true, and each argument reads as it did. -/
import Derived.Test.YtkonipbnnpcbmaaRunD
set_option linter.unusedVariables false
set_option linter.unusedSimpArgs false
/- Chapter 37: the row of CountPath. -/
namespace Go.Proofs.Ytkonipbnnpcbmaa
open Go.ChangeShapes Go.WideShapes Go.ChangeAt Go.RowKit Go.Abs Go.Abs.C37

theorem CountPath_lifted (os : Os) (started : os.Started) (H : Type) (enc : TypeId × Value → H) :
    ReturnsInHanded {} Try.checked os 3 .any (fun w args => (Rows.countPathSpec.pre enc Try.prog Try.f3 Rows.countPathRow.domain false w args ∧ True) ∧ sizedMet enc Try.prog Try.f3 (OpenSpec.ofChange Rows.countPathSpec) false w args)
      (Rows.countPathSpec.post enc Try.prog Try.f3 false true false false) := by
  refine returnsInHanded_of_change_and (C := Try.checked) (X := fun _ _ => True) (fun _ _ _ _ _ => trivial) Try.own started (by kernel_rfl) Try.func3
    (ChangeSpec.witness_at (enc := enc) (C := Try.checked) (os := os) (X := fun _ _ => True) false (laidWorld os) #[.slice none 0 0] 8 rfl (by kernel_rfl) (by kernel_rfl) (by kernel_rfl) (by kernel_rfl) (by kernel_rfl) trivial) ?_
  intro W base args ds gs before hval hW _ hwt hL _
  exact law_row 8 [.sl (.int .i64)] ok3 rfl Try.laidOut (by kernel_rfl) (by kernel_rfl) rfl (by kernel_rfl) (tb := 4) (by kernel_rfl)
    (fun ds hd => by
      match ds, hd with
      | [d1], _ => rfl) glob_ok hval hW hwt

theorem CountPath_holds : Rows.CountPathSaid :=
  OpenClaim.holds_of_wide 3 Try.f3 rfl rfl rfl rfl rfl rfl rfl ⟨rfl, rfl, rfl, rfl, rfl⟩ rfl rfl rfl rfl rfl (by kernel_rfl) Try.func3 (by kernel_rfl)
    (of_decide_eq_true (by kernel_rfl)) (by unfold Func.isWrapper; first | (rw [if_pos (by decide +kernel)]; kernel_rfl) | (rw [if_neg (by decide +kernel)]; exact ⟨rfl, rfl⟩))
    (fun os started H enc _ => by
      show ReturnsInHanded {} Try.checked os 3 .any (fun w args => Rows.countPathSpec.pre enc Try.prog Try.f3 Rows.countPathRow.domain false w args ∧ sizedMet enc Try.prog Try.f3 (OpenSpec.ofChange Rows.countPathSpec) false w args) (Rows.countPathSpec.post enc Try.prog Try.f3 false true false false)
      have h := CountPath_lifted os started H enc
      simp only [and_true] at h
      exact h)
end Go.Proofs.Ytkonipbnnpcbmaa
