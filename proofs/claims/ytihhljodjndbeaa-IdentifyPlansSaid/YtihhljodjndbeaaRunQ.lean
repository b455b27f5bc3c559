/- Chapter 10: proved is what the rows share; no conditions but those that each theorem states. -/
import Derived.Test.YtihhljodjndbeaaRunD
import Derived.Test.YtihhljodjndbeaaRows
import Derived.LaidLaws
set_option linter.unusedVariables false
set_option linter.unusedSimpArgs false
namespace Go.Proofs.Ytihhljodjndbeaa
open Go.ChangeShapes Go.WideShapes Go.ChangeAt Go.RowKit Go.Abs Go.Abs.C10

theorem Try.own : ownKnob Try.prog.godebug = none := by kernel_rfl
theorem Try.laidOut : laidOutB Try.prog = true := by kernel_rfl
noncomputable def laidWorld (os : Os) : World := World.holding Try.prog os ⟨#[], #[], []⟩
theorem glob_ok {W : World} : ∀ g k l, (B.glob g) = some (k, l) → l.length ≤ cellN W g ∧ ∀ j (h : j < l.length), W.cell? ⟨g, j, none⟩ = some (.int k l[j]) ∧ k.has l[j] := by
  intro g k l hg
  have hg' : lookG gl g = some (k, l) := hg
  simp only [gl, lookG] at hg'
  cases hg'
end Go.Proofs.Ytihhljodjndbeaa
