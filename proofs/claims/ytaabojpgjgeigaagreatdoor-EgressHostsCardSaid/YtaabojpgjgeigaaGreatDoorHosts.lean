/- Proved is the tied card of the law EgressHosts: for every input the law returns true, and each argument reads as it did; the package variable that the row lists holds what the text lays, and the card ties that to the text. -/
import Derived.Test.YtaabojpgjgeigaaGreatDoorHunQ
import Derived.Test.YtaabojpgjgeigaaGreatDoorTie
import Derived.Test.YtaabojpgjgeigaaGreatDoorCards
set_option linter.unusedVariables false
set_option linter.unusedSimpArgs false
namespace Go.Proofs.YtaabojpgjgeigaaGreatDoor
open Go.ChangeShapes Go.WideShapes Go.ChangeAt Go.RowKit Go.gI Go.gI.qJ
set_option maxRecDepth 100000 in
theorem afB (os:Os) (started:os.Started) (H:Type) (enc:TypeId×Value→H) :
 ReturnsInHanded {} Tryz.checked os 3 .any (fun w args=>(Rows.egressHostsSpec.pre enc Tryz.prog Tryz.f3 Rows.egressHostsRow.domain false w args∧laidMet Tryz.prog Rows.egressHostsRow.laid w)∧sizedMet enc Tryz.prog Tryz.f3 (OpenSpec.ofChange Rows.egressHostsSpec) false w args)
  (Rows.egressHostsSpec.post enc Tryz.prog Tryz.f3 false true false false):=by
 refine returnsInHanded_of_change_and (C:=Tryz.checked) (X:=fun w _=>laidMet Tryz.prog Rows.egressHostsRow.laid w) (fun _ _ _ hh h=>h.of_heap hh) Tryz.own started (by kernel_rfl) Tryz.func3
  (ChangeSpec.witness_at (enc:=enc) (C:=Tryz.checked) (os:=os) (X:=fun w _=>laidMet Tryz.prog Rows.egressHostsRow.laid w) false (DL os) #[.slice none 0 0] 8 rfl (by kernel_rfl) (by kernel_rfl) (by kernel_rfl) (by kernel_rfl) (by kernel_rfl) (Um os _)) ?_
 intro W base args ds gs before hval hW _ hwt hL _
 exact U9 8 [.sl (.int .i64)] ok3 rfl Tryz.laidOut (by kernel_rfl) (by kernel_rfl) rfl (by kernel_rfl) (tb:=4) (by kernel_rfl)
  (fun ds hd=>by
   match ds,hd with
   | [d1],_=>rfl) (Zq hL) hval hW hwt
set_option maxRecDepth 100000 in
theorem EgressHosts_holds:Rows.EgressHostsSaid:=
 OpenClaim.holds_of_wide 3 Tryz.f3 rfl rfl rfl rfl rfl rfl rfl ⟨rfl,rfl,rfl,rfl,rfl⟩ rfl rfl rfl rfl rfl (by kernel_rfl) Tryz.func3 (by kernel_rfl)
  (of_decide_eq_true (by kernel_rfl)) (by unfold Func.isWrapper;first | (rw [if_pos (by decide +kernel)];kernel_rfl) | (rw [if_neg (by decide +kernel)];exact ⟨rfl,rfl⟩))
  (fun os started H enc _=>afB os started H enc)
set_option maxRecDepth 100000 in
theorem EgressHosts_card:Rows.EgressHostsCardSaid:=
 Claim7.holds_tied_plain_at .later [] [.data] true (true,"4ee73f110a80f6da83e567d7f812901c4ff5b768f3467e5a3c1eca921ec302a8") false
  EgressHosts_holds (fun _ h=>by cases h) (by kernel_rfl) (fun _ h=>by cases h) egressHosts_row_tie rfl ⟨rfl,rfl⟩ (by kernel_rfl) rfl
  (fun f fn hf hfn=>by
   obtain rfl:f=3:=Option.some.inj ((show Tryz.prog.funcNamed "bitcast/bitcastlaw29.EgressHosts" = some 3 by kernel_rfl).symm.trans hf) |>.symm
   obtain rfl:fn=Tryz.f3:=(Option.some.inj (Tryz.func3.symm.trans hfn)).symm
   exact ⟨by kernel_rfl,fun j t ht=>by
    have:(Tryz.f3.params.toList.all fun t=>!Tryz.prog.wantsStandIn t)=true:=by kernel_rfl
    have:=List.all_eq_true.1 this t (List.mem_of_getElem? (by simpa using ht))
    show Tryz.prog.wantsStandIn t=false
    simpa using this⟩)
  (by kernel_rfl)
end Go.Proofs.YtaabojpgjgeigaaGreatDoor