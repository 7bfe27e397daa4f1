/- RightReplays: for all rights, and whatever else it is asked, the law returns true, and the input reads as it did; the listed variables lie as the program's text lays them. -/
import Derived.Test.YtjhbofabmpfniaaGreatDoorYH
import Derived.Test.YtjhbofabmpfniaaGreatDoorCards
set_option linter.unusedSimpArgs false
set_option linter.unusedVariables false
set_option maxRecDepth 100000
set_option maxHeartbeats 4000000
namespace Go.Proofs.YtjhbofabmpfniaaGreatDoor
open Go Go.ChangeShapes Go.WideShapes Go.ChangeAt Go.RowKit
theorem rjf_and {a b:Bool} (h1:a=true) (h2:b=true):(a&&b)=true:=by rw [h1,h2];rfl
theorem rjf1:(Rows.rightReplaysRow.inPlace==Tryz.prog.inPlace 3)=true:=by kernel_rfl
theorem rjf2:(Rows.rightReplaysRow.unfollowed==Tryz.prog.unfollowed 3)=true:=by kernel_rfl
theorem rjf3:(Rows.rightReplaysRow.recurses==Tryz.prog.recurses 3)=true:=by kernel_rfl
theorem rjf4:(Rows.rightReplaysRow.named==Tryz.prog.varsNamed 3)=true:=by kernel_rfl
theorem rjf5:laidOutB Tryz.prog=true:=by kernel_rfl
theorem rjf6:mapsRowed Tryz.prog=true:=by kernel_rfl
theorem rjf7:Tryz.prog.stopsHeard=true:=by kernel_rfl
theorem rjf8:Tryz.prog.mayEnter=true:=by kernel_rfl
theorem rjf9:(Rows.rightReplaysRow.plainKeys==Tryz.prog.plainKeys)=true:=by kernel_rfl
theorem rjf10:(Rows.rightReplaysRow.lifted==Tryz.prog.liftsFinal)=true:=by kernel_rfl
theorem rjf11:(Tryz.prog.make==some Rows.rightReplaysRow.make)=true:=by kernel_rfl
theorem rjf0:joinedFacts Tryz.prog 3 Tryz.f3 Rows.rightReplaysSpec Rows.rightReplaysRow=true:=by
 unfold joinedFacts
 repeat' with_reducible refine rjf_and ?_ ?_
 all_goals first
  |with_reducible exact rjf1
  |with_reducible exact rjf2
  |with_reducible exact rjf3
  |with_reducible exact rjf4
  |with_reducible exact rjf5
  |with_reducible exact rjf6
  |with_reducible exact rjf7
  |with_reducible exact rjf8
  |with_reducible exact rjf9
  |with_reducible exact rjf10
  |with_reducible exact rjf11
  |kernel_rfl
theorem rjh1:Tryz.prog.mainIs=some (Rows.rightReplaysCard.stood.harness.1,Rows.rightReplaysCard.stood.harness.2.toList):=by kernel_rfl
theorem rjh2:false=Tryz.prog.looks []:=by kernel_rfl
theorem rjh3:false=Rows.rightReplaysRow.goesBy Tryz.prog:=by kernel_rfl
theorem zhA:Rows.RightReplaysSaid:=
 OpenClaim.holds_of_wide 3 Tryz.f3 rfl rfl rfl rfl rfl rfl rfl ⟨rfl,rfl,rfl,rfl,rfl⟩ rfl rfl rfl rfl rfl (by kernel_rfl) Tryz.func3 rjf0
  (of_decide_eq_true (by kernel_rfl)) (by unfold Func.isWrapper;first|(rw[if_pos (by decide+kernel)];kernel_rfl)|(rw[if_neg (by decide+kernel)];exact⟨rfl,rfl⟩))
  (fun os started H enc _=>zgh os started H enc)
theorem rightReplays_holds:Rows.RightReplaysCardSaid:=
 Claim7.holds_tied_plain_at .later [] [.data, .data, .data, .data] true Rows.rightReplaysCard.stood.harness false zhA (fun _ h=>by cases h) (by kernel_rfl) (fun _ h=>by cases h) rightReplays_row_tie rfl ⟨rfl,rfl⟩ rjh1 rfl
  (fun f fn hf hfn=>by
    obtain rfl:f=3:=Option.some.inj ((show Tryz.prog.funcNamed "mortsafe/mortsafelaw05.RightReplays" =some 3 by kernel_rfl).symm.trans hf) |>.symm
    obtain rfl:fn=Tryz.f3:=(Option.some.inj (Tryz.func3.symm.trans hfn)).symm
    exact⟨rjh2,fun j t ht=>by
     rw[Tryz.params3]at ht
     have hm:t∈[25]:=by simpa using Array.mem_of_getElem? ht
     have hall:([25].all fun u=>!Tryz.prog.wantsStandIn u)=true:=by kernel_rfl
     exact(show Tryz.prog.wantsStandIn t=false by simpa using List.all_eq_true.1 hall t hm)⟩)
  rjh3
#print axioms rightReplays_holds
end Go.Proofs.YtjhbofabmpfniaaGreatDoor
