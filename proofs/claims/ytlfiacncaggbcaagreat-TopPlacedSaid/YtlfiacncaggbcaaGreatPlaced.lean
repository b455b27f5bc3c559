/- Proved is the law TopPlaced: for every input the law returns true, and each argument reads as it did. -/
import Derived.Test.YtlfiacncaggbcaaGreatRunQ
set_option linter.unusedVariables false
set_option linter.unusedSimpArgs false
set_option maxRecDepth 100000
namespace Go.Proofs.YtlfiacncaggbcaaGreat
open Go.ChangeShapes Go.WideShapes Go.ChangeAt Go.RowKit Go.dw Go.dw.rO
theorem Db (os:Os) (started:os.Started) (H:Type) (enc:TypeId×Value→H) :
 ReturnsInHanded {} Tryz.checked os 4 .any (fun w args=>(Rows.topPlacedSpec.pre enc Tryz.prog Tryz.f4 Rows.topPlacedRow.domain false w args∧True)∧sizedMet enc Tryz.prog Tryz.f4 (OpenSpec.ofChange Rows.topPlacedSpec) false w args)
  (Rows.topPlacedSpec.post enc Tryz.prog Tryz.f4 false true false false):=by
 refine returnsInHanded_of_change_and (C:=Tryz.checked) (X:=fun _ _=>True) (fun _ _ _ _ _=>trivial) Tryz.own started (by kernel_rfl) Tryz.func4
  (ChangeSpec.witness_at (enc:=enc) (C:=Tryz.checked) (os:=os) (X:=fun _ _=>True) false (Ym os) #[.slice none 0 0] 8 rfl (by kernel_rfl) (by kernel_rfl) (by kernel_rfl) (by kernel_rfl) (by kernel_rfl) trivial) ?_
 intro W base args ds gs before ZH hW _ hwt hL _
 exact aev 8 [.sl (.int .i64)] ok4 rfl Tryz.laidOut (by kernel_rfl) (by kernel_rfl) rfl (by kernel_rfl) (tb:=4) (by kernel_rfl)
  (fun ds hd=>by
   match ds,hd with
   | [d1],_=>rfl) af8 ZH hW hwt
theorem TopPlaced_holds:Rows.TopPlacedSaid:=
 OpenClaim.holds_of_wide 4 Tryz.f4 rfl rfl rfl rfl rfl rfl rfl ⟨rfl,rfl,rfl,rfl,rfl⟩ rfl rfl rfl rfl rfl (by kernel_rfl) Tryz.func4 (by kernel_rfl)
  (vP (by kernel_rfl)) (by unfold Func.isWrapper;first | (rw [if_pos (by decide +kernel)];kernel_rfl) | (rw [if_neg (by decide +kernel)];exact ⟨rfl,rfl⟩))
  (fun os started H enc _=>by
   show ReturnsInHanded {} Tryz.checked os 4 .any (fun w args=>Rows.topPlacedSpec.pre enc Tryz.prog Tryz.f4 Rows.topPlacedRow.domain false w args∧sizedMet enc Tryz.prog Tryz.f4 (OpenSpec.ofChange Rows.topPlacedSpec) false w args) (Rows.topPlacedSpec.post enc Tryz.prog Tryz.f4 false true false false)
   have h:=Db os started H enc;simp only [and_true] at h
   exact h)
end Go.Proofs.YtlfiacncaggbcaaGreat