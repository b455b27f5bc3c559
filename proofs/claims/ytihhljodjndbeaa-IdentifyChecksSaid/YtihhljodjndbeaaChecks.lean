/- Proved is the statement of the law IdentifyChecks: for every input the law returns true, and each argument reads as it did. -/
import Derived.Test.YtihhljodjndbeaaRunQ
set_option linter.unusedVariables false
set_option linter.unusedSimpArgs false
namespace Go.Abs.C10
open Go Go.Proofs
set_option maxRecDepth 100000
theorem ok6 : FunOk Try.prog B 6 c6 := glue L16 all16 plan6 Try.func6 (by kernel_rfl) (by
  rintro ⟨⟨⟩, a0, a1, ⟨a2, a3, a4, ⟨⟩⟩, ⟨⟩⟩ y r h
  exact (g6_eq a0 a1 a2 a3 a4).trans ((g6_ok a0 a1 a2 a3 a4 r.2.1 r.2.2.1 r.2.2.2.1.1 r.2.2.2.1.2.1 r.2.2.2.1.2.2.1).trans h))
end Go.Abs.C10

namespace Go.Proofs.Ytihhljodjndbeaa
open Go.ChangeShapes Go.WideShapes Go.ChangeAt Go.RowKit Go.Abs Go.Abs.C10

set_option maxRecDepth 100000 in
theorem IdentifyChecks_lifted (os : Os) (started : os.Started) (H : Type) (enc : TypeId × Value → H) :
    ReturnsInHanded {} Try.checked os 6 .any (fun w args => (Rows.identifyChecksSpec.pre enc Try.prog Try.f6 Rows.identifyChecksRow.domain false w args ∧ True) ∧ sizedMet enc Try.prog Try.f6 (OpenSpec.ofChange Rows.identifyChecksSpec) false w args)
      (Rows.identifyChecksSpec.post enc Try.prog Try.f6 false true false false) := by
  refine returnsInHanded_of_change_and (C := Try.checked) (X := fun _ _ => True) (fun _ _ _ _ _ => trivial) Try.own started (by kernel_rfl) Try.func6
    (ChangeSpec.witness_at (enc := enc) (C := Try.checked) (os := os) (X := fun _ _ => True) false (laidWorld os) #[.slice none 0 0, .slice none 0 0, .agg #[.int .i64 0, .int .i64 0, .slice none 0 0]] 8 rfl (by kernel_rfl) (by kernel_rfl) (by kernel_rfl) (by kernel_rfl) (by kernel_rfl) trivial) ?_
  intro W base args ds gs before hval hW _ hwt hL _
  exact law_row 8 [.sl (.int .i64), .sl owT, .st 40 (.cons (.int .i64) (.cons (.int .i64) (.cons (.sl edT) .unit)))] ok6 rfl Try.laidOut (by kernel_rfl) (by kernel_rfl) rfl (by kernel_rfl) (tb := 4) (by kernel_rfl)
    (fun ds hd => by
      match ds, hd with
      | [d1, d2, d3], _ => rfl) glob_ok hval hW hwt

theorem IdentifyChecks_holds : Rows.IdentifyChecksSaid :=
  OpenClaim.holds_of_wide 6 Try.f6 rfl rfl rfl rfl rfl rfl rfl ⟨rfl, rfl, rfl, rfl, rfl⟩ rfl rfl rfl rfl rfl (by kernel_rfl) Try.func6 (by kernel_rfl)
    (of_decide_eq_true (by kernel_rfl)) (by unfold Func.isWrapper; first | (rw [if_pos (by decide +kernel)]; kernel_rfl) | (rw [if_neg (by decide +kernel)]; exact ⟨rfl, rfl⟩))
    (fun os started H enc _ => by
      show ReturnsInHanded {} Try.checked os 6 .any (fun w args => Rows.identifyChecksSpec.pre enc Try.prog Try.f6 Rows.identifyChecksRow.domain false w args ∧ sizedMet enc Try.prog Try.f6 (OpenSpec.ofChange Rows.identifyChecksSpec) false w args) (Rows.identifyChecksSpec.post enc Try.prog Try.f6 false true false false)
      have h := IdentifyChecks_lifted os started H enc
      simp only [and_true] at h
      exact h)
end Go.Proofs.Ytihhljodjndbeaa
