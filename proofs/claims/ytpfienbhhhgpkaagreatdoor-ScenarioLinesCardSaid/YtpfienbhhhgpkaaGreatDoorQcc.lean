/- For every scenario, number and line the law ScenarioLines returns true, and these read as they did: the row, and the card tied to the program's text.
  Conditions: the listed variables of Go's library hold what their own text lays (tied by the card); the rest of the world is open. -/
import Derived.Test.YtpfienbhhhgpkaaGreatDoorQcb
import Derived.Test.YtpfienbhhhgpkaaGreatDoorQcd
import Derived.Test.YtpfienbhhhgpkaaGreatDoorCards
import Derived.Test.YtpfienbhhhgpkaaGreatDoorTie
set_option linter.defProp false
set_option linter.unusedVariables false
set_option linter.unusedSimpArgs false
set_option maxRecDepth 100000
set_option maxHeartbeats 32000000
open Option renaming some->WX
open Bool renaming false->Xc,true->Xe
open Go.OpenSpec renaming ofChange->Yu
namespace Go.Proofs.YtpfienbhhhgpkaaGreatDoor
section
open Go Go.RowKit Go.ChangeShapes Go.WideShapes Go.ChangeAt Go.Proofs.Tryz
open Go.ChangeMaps (open_string shut_string)
theorem lns_card:Rows.ScenarioLinesCardSaid:=
 Claim7.holds_tied_plain_at .later [] [.data,.data,.data,.data,.sentinel,.sentinel,.listed,.data,.pinned] Xe (Xe, "61ffa5420aa640f1d62c3c2e79ce02f61dac4207db69846f492bd3d56e08e99f") Xe
  ga4 (λ_ h=>by cases h) ga5 (λ_ h=>by cases h) scenarioLines_row_tie rfl ⟨rfl,rfl⟩ ga6 rfl
  (λf fn hf TL=>by
    obtain rfl:f=3:=XY ((show Tryz.prog.funcNamed "exodus/exoduslaw59.ScenarioLines" =WX 3 by kernel_rfl).symm.trans hf) |>.symm;obtain rfl:fn=Tryz.f3:=(XY (Tryz.func3.symm.trans TL)).symm;exact⟨ga7,fun j t ht=>by
     rw[Tryz.params3]at ht;have hm:t∈[33,5,9]:=by simpa using Array.mem_of_getElem? ht
     have dE:([33,5,9].all λu=> !Tryz.prog.wantsStandIn u)=true:=aI;exact(show Tryz.prog.wantsStandIn t=Xc by simpa using List.all_eq_true.1 dE t hm)⟩)
  ga8
end
end Go.Proofs.YtpfienbhhhgpkaaGreatDoor
