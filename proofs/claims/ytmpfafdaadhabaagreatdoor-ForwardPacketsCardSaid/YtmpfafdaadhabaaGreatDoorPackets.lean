/- Proved is the tied card of the law ForwardPackets: for every input the law returns true, and each argument reads as it did; the package variable that the row lists holds what the text lays, and the card ties that to the text. -/
import Derived.Test.YtmpfafdaadhabaaGreatDoorRunQ
import Derived.Test.YtmpfafdaadhabaaGreatDoorTie
import Derived.Test.YtmpfafdaadhabaaGreatDoorCards
set_option linter.unusedVariables false
set_option linter.unusedSimpArgs false
namespace Go.Proofs.YtmpfafdaadhabaaGreatDoor
open Go.ChangeShapes Go.WideShapes Go.ChangeAt Go.RowKit Go.aW Go.aW.fF
set_option maxRecDepth 100000 in
theorem oI (os:Os) (started:os.Started) (H:Type) (enc:TypeId×Value→H) :
    ReturnsInHanded {} Tryz.checked os 3 .any (fun w args=>(Rows.forwardPacketsSpec.pre enc Tryz.prog Tryz.f3 Rows.forwardPacketsRow.domain false w args∧laidMet Tryz.prog Rows.forwardPacketsRow.laid w)∧sizedMet enc Tryz.prog Tryz.f3 (OpenSpec.ofChange Rows.forwardPacketsSpec) false w args)
      (Rows.forwardPacketsSpec.post enc Tryz.prog Tryz.f3 false true false false):=by
  refine returnsInHanded_of_change_and (C:=Tryz.checked) (X:=fun w _=>laidMet Tryz.prog Rows.forwardPacketsRow.laid w) (fun _ _ _ hh h=>h.of_heap hh) Tryz.own started (by kernel_rfl) Tryz.func3
    (ChangeSpec.witness_at (enc:=enc) (C:=Tryz.checked) (os:=os) (X:=fun w _=>laidMet Tryz.prog Rows.forwardPacketsRow.laid w) false (Cc os) #[.slice none 0 0,.agg #[.int .i64 0,.int .i64 0,.int .i64 0,.slice none 0 0],.agg #[.int .i64 0,.int .i64 0,.int .i64 0,.int .i64 0,.int .i64 0,.int .i64 0,.int .i64 0,.int .i64 0,.int .u64 0,.string ⟨#[]⟩]] 8 rfl (by kernel_rfl) (by kernel_rfl) (by kernel_rfl) (by kernel_rfl) (by kernel_rfl) (QX os _)) ?_
  intro W base args ds gs before hval hW _ hwt hL _
  exact RL 8 [.sl (.int .i64),tbT,pkT] ok3 rfl Tryz.laidOut (by kernel_rfl) (by kernel_rfl) rfl (by kernel_rfl) (tb:=4) (by kernel_rfl)
    (fun ds hd=>by
      match ds,hd with
      | [d1,d2,d3],_=>rfl) (TP hL) hval hW hwt
set_option maxRecDepth 100000 in
theorem ForwardPackets_holds:Rows.ForwardPacketsSaid:=
  OpenClaim.holds_of_wide 3 Tryz.f3 rfl rfl rfl rfl rfl rfl rfl ⟨rfl,rfl,rfl,rfl,rfl⟩ rfl rfl rfl rfl rfl (by kernel_rfl) Tryz.func3 (by kernel_rfl)
    (of_decide_eq_true (by kernel_rfl)) (by unfold Func.isWrapper;first | (rw [if_pos (by decide +kernel)];kernel_rfl) | (rw [if_neg (by decide +kernel)];exact ⟨rfl,rfl⟩))
    (fun os started H enc _=>oI os started H enc)
set_option maxRecDepth 100000 in
theorem ForwardPackets_card:Rows.ForwardPacketsCardSaid:=
  Claim7.holds_tied_plain_at .later [] [.data] true (true,"e6c5fa84713b00148b60723d190577f6ae939ab68f4a6d1c03b159d15d9a9f7f") false
    ForwardPackets_holds (fun _ h=>by cases h) (by kernel_rfl) (fun _ h=>by cases h) forwardPackets_row_tie rfl ⟨rfl,rfl⟩ (by kernel_rfl) rfl
    (fun f fn hf hfn=>by
      obtain rfl:f=3:=Option.some.inj ((show Tryz.prog.funcNamed "bitcast/bitcastlaw13.ForwardPackets" = some 3 by kernel_rfl).symm.trans hf) |>.symm
      obtain rfl:fn=Tryz.f3:=(Option.some.inj (Tryz.func3.symm.trans hfn)).symm
      exact ⟨by kernel_rfl,fun j t ht=>by
        have:(Tryz.f3.params.toList.all fun t=>!Tryz.prog.wantsStandIn t)=true:=by kernel_rfl
        have:=List.all_eq_true.1 this t (List.mem_of_getElem? (by simpa using ht))
        show Tryz.prog.wantsStandIn t=false
        simpa using this⟩)
    (by kernel_rfl)
end Go.Proofs.YtmpfafdaadhabaaGreatDoor