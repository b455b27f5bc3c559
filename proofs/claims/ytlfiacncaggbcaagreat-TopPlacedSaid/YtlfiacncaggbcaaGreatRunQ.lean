/- The top statements: proved is what the rows share; no conditions but those that each theorem states. -/
import Derived.Test.YtlfiacncaggbcaaGreatRunG
import Derived.Test.YtlfiacncaggbcaaGreatRows
import Derived.LaidLaws
set_option linter.unusedVariables false
set_option linter.unusedSimpArgs false
namespace Go.Proofs.YtlfiacncaggbcaaGreat
open Go.ChangeShapes Go.WideShapes Go.ChangeAt Go.RowKit Go.dw Go.dw.rO
theorem Tryz.own:ownKnob Tryz.prog.godebug=none:=by kernel_rfl
theorem Tryz.laidOut:laidOutB Tryz.prog=true:=by kernel_rfl
noncomputable def Ym (os:Os):World:=World.holding Tryz.prog os ⟨#[],#[],[]⟩
theorem af8  {W:World}:∀ g k l,(B.glob g)=some (k,l)→l.length≤gV W g∧∀ j (h:j<l.length),W.cell? ⟨g,j,none⟩=some (.int k l[j])∧k.has l[j]:=by
 intro g k l hg;have Gq:UL gl g=some (k,l):=hg;simp only [gl,UL] at Gq;cases Gq
end Go.Proofs.YtlfiacncaggbcaaGreat