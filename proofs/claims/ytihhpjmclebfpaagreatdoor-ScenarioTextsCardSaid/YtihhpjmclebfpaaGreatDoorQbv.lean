/- A part of the proof. -/
import Derived.Test.YtihhpjmclebfpaaGreatDoorQbb
import Derived.Test.YtihhpjmclebfpaaGreatDoorQbu
import Derived.Test.YtihhpjmclebfpaaGreatDoorCards
import Derived.Test.YtihhpjmclebfpaaGreatDoorTie
set_option linter.defProp false
set_option linter.unusedVariables false
set_option linter.unusedSimpArgs false
set_option maxRecDepth 100000
set_option maxHeartbeats 32000000
open Option renaming some->XL
open Bool renaming false->XQ,true->XR
open Go.OpenSpec renaming ofChange->Y8
namespace Go.Proofs.YtihhpjmclebfpaaGreatDoor
open Go Go.RowKit Go.Proofs.Tryz
section
open Go.ChangeShapes Go.WideShapes Go.ChangeAt
open Go.ChangeMaps (open_string shut_string)
def gq6:Rows.ScenarioTextsSaid:=
 OpenClaim.holds_of_wide 3 Tryz.f3 rfl rfl rfl rfl rfl rfl rfl ⟨rfl,rfl,rfl,rfl,rfl⟩ rfl rfl rfl rfl rfl aI func3 hi1
  (of_decide_eq_true aI) (by unfold Func.isWrapper;rw[if_neg (of_decide_eq_false aI)];exact⟨rfl,rfl⟩)
  (λos started H enc _=>gn7 os started H enc)
def gq7:Rows.scenarioTextsRow.wfByText (Y8 Rows.scenarioTextsSpec)=true:=aI
def gq8:Tryz.pinned.checked.prog.mainIs=XL (XR, "4a3da9157e984df50e0f6b9eaa61fdc393edcf2be4f0cf3e50c11fe4372bc4c9".toList):=aI
def gq9:XR=Tryz.prog.looks []:=aI
theorem txs_card:Rows.ScenarioTextsCardSaid:=
 Claim7.holds_tied_plain_at .later [] [.data,.data,.data,.data,.sentinel,.sentinel,.listed,.data,.pinned] XR (XR, "4a3da9157e984df50e0f6b9eaa61fdc393edcf2be4f0cf3e50c11fe4372bc4c9") XR
  gq6 (λ_ h=>by cases h) gq7 (λ_ h=>by cases h) scenarioTexts_row_tie rfl ⟨rfl,rfl⟩ gq8 rfl
  (λf fn hf Vb=>by
    obtain rfl:f=3:=YG ((show Tryz.prog.funcNamed "exodus/exoduslaw59.ScenarioTexts" =XL 3 by kernel_rfl).symm.t hf) |>.symm;obtain rfl:fn=Tryz.f3:=(YG (Tryz.func3.symm.t Vb)).symm;exact⟨gq9,fun j t ht=>by
     rw[Tryz.params3]at ht;have hm:t∈[33]:=by simpa using Array.mem_of_getElem? ht
     have dx:([33].all λu=> !Tryz.prog.wantsStandIn u)=true:=aI;exact(show Tryz.prog.wantsStandIn t=XQ by simpa using List.all_eq_true.1 dx t hm)⟩)
  gq5
end
end Go.Proofs.YtihhpjmclebfpaaGreatDoor
