/-
  For every source, control group and number of clients of bulk at most 1048576 the law ScenarioModels returns true, and they read as they did: the card, tied to the program's text.
  Conditions: the listed variables of Go's library hold what their own text lays (tied by the card); the rest of the world is open.
-/
/- A part of the proof. -/
import Derived.Test.YthnkonlbfogkgaaGreatDoorQby
import Derived.Test.YthnkonlbfogkgaaGreatDoorQbz
import Derived.Test.YthnkonlbfogkgaaGreatDoorQca
set_option linter.unusedVariables false
set_option linter.unusedSimpArgs false
set_option maxRecDepth 100000
set_option maxHeartbeats 32000000
namespace Go.Proofs.YthnkonlbfogkgaaGreatDoor
open Go Go.RowKit Go.ChangeShapes Go.WideShapes Go.ChangeAt Go.Proofs.Tryz
open Go.ChangeMaps (open_string shut_string)
theorem OH:Rows.ScenarioModelsUptoSaid:=
 OpenClaim.holds_of_cond 4 Tryz.f4 rfl rfl rfl rfl rfl rfl rfl ⟨rfl,rfl,rfl,rfl,rfl⟩ rfl rfl rfl rfl rfl (by kernel_rfl) func4 mj
  (of_decide_eq_true (by kernel_rfl)) (by unfold Func.isWrapper;rw[if_neg (of_decide_eq_false (by kernel_rfl))];exact⟨rfl,rfl⟩)
  (fun os started H enc _ F=>by rw[OpenClaim.pre_eq_preRow];exact N6 os started H enc F)
theorem models_card:Rows.ScenarioModelsUptoCardSaid:=
 Claim7.holds_tied_plain_at .later [] [.data,.data,.data,.data,.sentinel,.sentinel,.listed,.data,.pinned] true (true, "95bd029508536b5caa90ae204a4abb05856bec0c1b5de01c2d7940bd2d519ddc") true
  OH (fun _ h=>by cases h) OI (fun _ h=>by cases h) scenarioModelsUpto_row_tie rfl ⟨rfl,rfl⟩ OJ rfl
  (fun f fn hf hfn=>by
    obtain rfl:f=4:=Option.some.inj ((show Tryz.prog.funcNamed "exodus/exoduslaw59.ScenarioModels" =some 4 by kernel_rfl).symm.trans hf) |>.symm
    obtain rfl:fn=Tryz.f4:=(Option.some.inj (Tryz.func4.symm.trans hfn)).symm
    exact⟨OK,fun j t ht=>by
     rw[Tryz.params4] at ht
     have hm:t∈[9,30,3]:=by simpa using Array.mem_of_getElem? ht
     have hall:([9,30,3].all fun u=> !Tryz.prog.wantsStandIn u)=true:=by kernel_rfl
     exact(show Tryz.prog.wantsStandIn t=false by simpa using List.all_eq_true.1 hall t hm)⟩)
  OL
end Go.Proofs.YthnkonlbfogkgaaGreatDoor
