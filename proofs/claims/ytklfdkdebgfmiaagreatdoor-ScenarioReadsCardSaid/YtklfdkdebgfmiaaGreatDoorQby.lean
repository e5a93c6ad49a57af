/- For every text the law ScenarioReads returns true, and the text reads as it did: the row, and the card tied to the program's text. Conditions: the listed variables of Go's library hold what their own text lays (tied by the card); the rest of the world is open. -/
import Derived.Test.YtklfdkdebgfmiaaGreatDoorQbb
import Derived.Test.YtklfdkdebgfmiaaGreatDoorQbx
import Derived.Test.YtklfdkdebgfmiaaGreatDoorCards
import Derived.Test.YtklfdkdebgfmiaaGreatDoorTie
set_option linter.defProp false
set_option linter.unusedVariables false
set_option linter.unusedSimpArgs false
set_option maxRecDepth 100000
set_option maxHeartbeats 32000000
open Option renaming some->Ws
open Bool renaming false->Ww,true->Wz
open Go.OpenSpec renaming ofChange->XY
namespace Go.Proofs.YtklfdkdebgfmiaaGreatDoor
section
open Go Go.RowKit Go.ChangeShapes Go.WideShapes Go.ChangeAt Go.Proofs.Tryz
open Go.ChangeMaps (open_string shut_string)
def gf9:Rows.ScenarioReadsSaid:=
 OpenClaim.holds_of_wide 3 Tryz.f3 rfl rfl rfl rfl rfl rfl rfl ⟨rfl,rfl,rfl,rfl,rfl⟩ rfl rfl rfl rfl rfl aC func3 gw1
  (of_decide_eq_true aC) (by unfold Func.isWrapper;rw[if_neg (of_decide_eq_false aC)];exact⟨rfl,rfl⟩)
  (λos started H enc _=>gb0 os started H enc)
def gg0:Rows.scenarioReadsRow.wfByText (XY Rows.scenarioReadsSpec)=true:=aC
def gg1:Tryz.pinned.checked.prog.mainIs=Ws (Wz, "e315c7d90b388fd7d4a5f19952a0b9bd4051a12cf34b66a790d6b4345139de34".toList):=aC
def gg2:Wz=Tryz.prog.looks []:=aC
def gg3:Ww=Rows.scenarioReadsRow.goesBy prog:=aC
theorem rds_card:Rows.ScenarioReadsCardSaid:=
 Claim7.holds_tied_plain_at .later [] [.data,.data,.data,.data,.sentinel,.sentinel,.listed,.data,.pinned] Wz (Wz, "e315c7d90b388fd7d4a5f19952a0b9bd4051a12cf34b66a790d6b4345139de34") Wz
  gf9 (λ_ h=>by cases h) gg0 (λ_ h=>by cases h) scenarioReads_row_tie rfl ⟨rfl,rfl⟩ gg1 rfl
  (λf fn hf UP=>by
    obtain rfl:f=3:=Xv ((show Tryz.prog.funcNamed "exodus/exoduslaw59.ScenarioReads" =Ws 3 by kernel_rfl).symm.trans hf) |>.symm;obtain rfl:fn=Tryz.f3:=(Xv (Tryz.func3.symm.trans UP)).symm;exact⟨gg2,fun j t ht=>by
     rw[Tryz.params3] at ht;have hm:t∈[9]:=by simpa using Array.mem_of_getElem? ht
     have dw:([9].all λu=> !Tryz.prog.wantsStandIn u)=true:=aC;exact(show Tryz.prog.wantsStandIn t=Ww by simpa using List.all_eq_true.1 dw t hm)⟩)
  gg3
end
end Go.Proofs.YtklfdkdebgfmiaaGreatDoor
