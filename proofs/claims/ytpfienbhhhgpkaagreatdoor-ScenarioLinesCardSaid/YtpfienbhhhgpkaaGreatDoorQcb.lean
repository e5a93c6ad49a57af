/- The row, and three of the card's facts. -/
import Derived.Test.YtpfienbhhhgpkaaGreatDoorQbb
import Derived.Test.YtpfienbhhhgpkaaGreatDoorQca
set_option linter.defProp false
set_option linter.unusedVariables false
set_option linter.unusedSimpArgs false
set_option maxRecDepth 100000
set_option maxHeartbeats 32000000
open Option renaming some->WX
open Bool renaming false->Xc,true->Xe
open Go.OpenSpec renaming ofChange->Yu
namespace Go.Proofs.YtpfienbhhhgpkaaGreatDoor
section
open Go Go.RowKit Go.ChangeShapes Go.WideShapes Go.ChangeAt Go.Proofs.Tryz
open Go.ChangeMaps (open_string shut_string)
def ga4:Rows.ScenarioLinesSaid:=
 OpenClaim.holds_of_wide 3 Tryz.f3 rfl rfl rfl rfl rfl rfl rfl ⟨rfl,rfl,rfl,rfl,rfl⟩ rfl rfl rfl rfl rfl aI func3 gr6
  (of_decide_eq_true aI) (by unfold Func.isWrapper;rw[if_neg (of_decide_eq_false aI)];exact⟨rfl,rfl⟩)
  (λos started H enc _=>gb7 os started H enc)
def ga5:Rows.scenarioLinesRow.wfByText (Yu Rows.scenarioLinesSpec)=true:=aI
def ga6:Tryz.pinned.checked.prog.mainIs=WX (Xe, "61ffa5420aa640f1d62c3c2e79ce02f61dac4207db69846f492bd3d56e08e99f".toList):=aI
def ga7:Xe=Tryz.prog.looks []:=aI
end
end Go.Proofs.YtpfienbhhhgpkaaGreatDoor
