/- Proved is the statement of the law IdentifyPlans: for every input the law returns true, and each argument reads as it did. -/
import Derived.Test.YtihhljodjndbeaaRunQ
set_option linter.unusedVariables false
set_option linter.unusedSimpArgs false
namespace Go.Abs.C10
open Go Go.Proofs
set_option maxRecDepth 100000
theorem ok9 : FunOk Try.prog B 9 c9 := glue L16 all16 plan9 Try.func9 (by kernel_rfl) (by
  rintro ⟨⟨⟩, a0, a1, a2, ⟨⟩⟩ y r h
  exact (g9_eq a0 a1 a2).trans ((g9_ok a0 a1 a2 r.2.1 r.2.2.1 r.2.2.2.1).trans h))
end Go.Abs.C10

namespace Go.Proofs.Ytihhljodjndbeaa
open Go.ChangeShapes Go.WideShapes Go.ChangeAt Go.RowKit Go.Abs Go.Abs.C10

set_option maxRecDepth 100000 in
theorem IdentifyPlans_lifted (os : Os) (started : os.Started) (H : Type) (enc : TypeId × Value → H) :
    ReturnsInHanded {} Try.checked os 9 .any (fun w args => (Rows.identifyPlansSpec.pre enc Try.prog Try.f9 Rows.identifyPlansRow.domain false w args ∧ True) ∧ sizedMet enc Try.prog Try.f9 (OpenSpec.ofChange Rows.identifyPlansSpec) false w args)
      (Rows.identifyPlansSpec.post enc Try.prog Try.f9 false true false false) := by
  refine returnsInHanded_of_change_and (C := Try.checked) (X := fun _ _ => True) (fun _ _ _ _ _ => trivial) Try.own started (by kernel_rfl) Try.func9
    (ChangeSpec.witness_at (enc := enc) (C := Try.checked) (os := os) (X := fun _ _ => True) false (laidWorld os) #[.slice none 0 0, .slice none 0 0, .int .i64 0] 8 rfl (by kernel_rfl) (by kernel_rfl) (by kernel_rfl) (by kernel_rfl) (by kernel_rfl) trivial) ?_
  intro W base args ds gs before hval hW _ hwt hL _
  exact law_row 8 [.sl (.int .i64), .sl owT, .int .i64] ok9 rfl Try.laidOut (by kernel_rfl) (by kernel_rfl) rfl (by kernel_rfl) (tb := 4) (by kernel_rfl)
    (fun ds hd => by
      match ds, hd with
      | [d1, d2, d3], _ => rfl) glob_ok hval hW hwt

theorem IdentifyPlans_holds : Rows.IdentifyPlansSaid :=
  OpenClaim.holds_of_wide 9 Try.f9 rfl rfl rfl rfl rfl rfl rfl ⟨rfl, rfl, rfl, rfl, rfl⟩ rfl rfl rfl rfl rfl (by kernel_rfl) Try.func9 (by kernel_rfl)
    (of_decide_eq_true (by kernel_rfl)) (by unfold Func.isWrapper; first | (rw [if_pos (by decide +kernel)]; kernel_rfl) | (rw [if_neg (by decide +kernel)]; exact ⟨rfl, rfl⟩))
    (fun os started H enc _ => by
      show ReturnsInHanded {} Try.checked os 9 .any (fun w args => Rows.identifyPlansSpec.pre enc Try.prog Try.f9 Rows.identifyPlansRow.domain false w args ∧ sizedMet enc Try.prog Try.f9 (OpenSpec.ofChange Rows.identifyPlansSpec) false w args) (Rows.identifyPlansSpec.post enc Try.prog Try.f9 false true false false)
      have h := IdentifyPlans_lifted os started H enc
      simp only [and_true] at h
      exact h)
end Go.Proofs.Ytihhljodjndbeaa
