/- Chapter 29 (egress, hosts): proved is what the rows share; no conditions but those that each theorem states. -/
import Derived.Test.YtaabojpgjgeigaaGreatDoorHunF
import Derived.Test.YtaabojpgjgeigaaGreatDoorRows
import Derived.LaidLaws
import Derived.SevenTiedAt
set_option linter.unusedVariables false
set_option linter.unusedSimpArgs false
namespace Go.Proofs.YtaabojpgjgeigaaGreatDoor
open Go.ChangeShapes Go.WideShapes Go.ChangeAt Go.RowKit Go.gI Go.gI.qJ
theorem Tryz.own:ownKnob Tryz.prog.godebug=none:=by kernel_rfl
theorem Tryz.laidOut:laidOutB Tryz.prog=true:=by kernel_rfl
theorem Tryz.table:Tryz.prog.globalNamed "math/bits.deBruijn64tab" = some 0:=by kernel_rfl
theorem Tryz.tableType:(Tryz.prog.globals[0]?).map (·.type)=some 202:=by kernel_rfl
noncomputable def DL (os:Os):World:=
 let w0:=World.holding Tryz.prog os ⟨#[],#[],[]⟩
 { w0 with heap:=w0.heap.modify 0 fun
  | .cells _ t frozen=>.cells #[.int .u8 0,.int .u8 1,.int .u8 56,.int .u8 2,.int .u8 57,.int .u8 49,.int .u8 28,.int .u8 3,.int .u8 61,.int .u8 58,.int .u8 42,.int .u8 50,.int .u8 38,.int .u8 29,.int .u8 17,.int .u8 4,.int .u8 62,.int .u8 47,.int .u8 59,.int .u8 36,.int .u8 45,.int .u8 43,.int .u8 51,.int .u8 22,.int .u8 53,.int .u8 39,.int .u8 33,.int .u8 30,.int .u8 24,.int .u8 18,.int .u8 12,.int .u8 5,.int .u8 63,.int .u8 55,.int .u8 48,.int .u8 27,.int .u8 60,.int .u8 41,.int .u8 37,.int .u8 16,.int .u8 46,.int .u8 35,.int .u8 44,.int .u8 21,.int .u8 52,.int .u8 32,.int .u8 23,.int .u8 11,.int .u8 54,.int .u8 26,.int .u8 40,.int .u8 15,.int .u8 34,.int .u8 20,.int .u8 31,.int .u8 10,.int .u8 25,.int .u8 14,.int .u8 19,.int .u8 9,.int .u8 13,.int .u8 8,.int .u8 7,.int .u8 6] t frozen
  | o=>o }
set_option maxRecDepth 100000 in
theorem Um (os:Os) (args:Array Value):laidMet Tryz.prog Rows.egressHostsRow.laid ((DL os).forCall (fun _ _=>0) ⟨#[],args,[]⟩).memory:=
 laidMet_of_run (ps:=[.cell 0 0,.cell 0 1,.cell 0 2,.cell 0 3,.cell 0 4,.cell 0 5,.cell 0 6,.cell 0 7,.cell 0 8,.cell 0 9,.cell 0 10,.cell 0 11,.cell 0 12,.cell 0 13,.cell 0 14,.cell 0 15,.cell 0 16,.cell 0 17,.cell 0 18,.cell 0 19,.cell 0 20,.cell 0 21,.cell 0 22,.cell 0 23,.cell 0 24,.cell 0 25,.cell 0 26,.cell 0 27,.cell 0 28,.cell 0 29,.cell 0 30,.cell 0 31,.cell 0 32,.cell 0 33,.cell 0 34,.cell 0 35,.cell 0 36,.cell 0 37,.cell 0 38,.cell 0 39,.cell 0 40,.cell 0 41,.cell 0 42,.cell 0 43,.cell 0 44,.cell 0 45,.cell 0 46,.cell 0 47,.cell 0 48,.cell 0 49,.cell 0 50,.cell 0 51,.cell 0 52,.cell 0 53,.cell 0 54,.cell 0 55,.cell 0 56,.cell 0 57,.cell 0 58,.cell 0 59,.cell 0 60,.cell 0 61,.cell 0 62,.cell 0 63]) 8 (by kernel_rfl) (by kernel_rfl) (by kernel_rfl)
set_option maxRecDepth 100000 in
theorem Zq  {W:World} (h:laidMet Tryz.prog Rows.egressHostsRow.laid W):∀ g k l,(B.glob g)=some (k,l)→l.length≤fE W g∧∀ j (h:j<l.length),W.cell? ⟨g,j,none⟩=some (.int k l[j])∧k.has l[j]:=by
 obtain ⟨ps,hps,_⟩:=h
 have key:=NS (k:=.u8) (n:=5) (t:=202) hps Tryz.table Tryz.tableType (by kernel_rfl)
 intro g k l hg;have hg':Le gl g=some (k,l):=hg;simp only [gl,Le] at hg'
 cases hb:Nat.beq g 0 with
 | false=>rw [hb] at hg';cases hg'
 | true=>
  rw [hb] at hg';simp only [aQ,bq,eX] at hg';obtain ⟨rfl,rfl⟩:=hg';have:=dM hb;subst this;exact key
end Go.Proofs.YtaabojpgjgeigaaGreatDoor