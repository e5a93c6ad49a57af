/- A part of the proof. -/
import Derived.Test.YtpfienbhhhgpkaaGreatDoorQa
import Derived.Test.YtpfienbhhhgpkaaGreatDoorRows
set_option linter.defProp false
set_option linter.unusedVariables false
set_option linter.unusedSimpArgs false
set_option maxRecDepth 100000
set_option maxHeartbeats 32000000
open Option renaming some->WX
open Decidable renaming decide->WZ
open Go.Proofs.Tryz renaming prog->Xn
open Go.OpenSpec renaming ofChange->Yu
namespace Go.Proofs.YtpfienbhhhgpkaaGreatDoor
section
open Go Go.RowKit Go.ChangeShapes Go.WideShapes Go.ChangeAt Go.Proofs.Tryz
open Go.ChangeMaps (open_string shut_string)
def gb8:(Rows.scenarioLinesRow.wf (Yu Rows.scenarioLinesSpec))=true:=aI
def gb9:(laidOutB Xn)=true:=aI
def gc0:(mapsRowed Xn)=true:=aI
def gc1:(Tryz.f3.params.all (Tryz.prog.readableRec ·))=true:=aI
def gc2:(namedTie Xn Rows.scenarioLinesRow.named (Yu Rows.scenarioLinesSpec).bare.vars)=true:=aI
def gc3:((Rows.scenarioLinesRow.stops==[]))=true:=aI
def gc4:((Tryz.prog.stops==[]))=true:=aI
def gc5:((Rows.scenarioLinesRow.knobs==[]))=true:=aI
def gc6:((Tryz.prog.stopKnobs==[]))=true:=aI
def gc7:((Rows.scenarioLinesRow.inPlace==Tryz.prog.inPlace 3))=true:=aI
def gc8:((Rows.scenarioLinesRow.unfollowed==Tryz.prog.unfollowed 3))=true:=aI
def gc9:((Rows.scenarioLinesRow.recurses==Tryz.prog.recurses 3))=true:=aI
def gd0:((Rows.scenarioLinesRow.named==Tryz.prog.varsNamed 3))=true:=aI
def fy6:((Rows.scenarioLinesRow.maps==(Tryz.f3.params.toList++(Yu Rows.scenarioLinesSpec).bare.plain.varTypes Xn).any (Tryz.prog.mapsRec ·)))=true:=aI
def fy7:((Rows.scenarioLinesRow.ifaces==(Tryz.f3.params.toList++(Yu Rows.scenarioLinesSpec).bare.plain.varTypes Xn).any (Tryz.prog.ifacesRec ·)))=true:=aI
def fy8:((Rows.scenarioLinesRow.mapsOut==Tryz.prog.mapsAmong Tryz.f3.resultTypes.toList))=true:=aI
def fy9:((Rows.scenarioLinesRow.loops==(Tryz.f3.params.toList++(Yu Rows.scenarioLinesSpec).bare.plain.varTypes Xn).any (Tryz.prog.loopsFrom ·)))=true:=aI
def fz0:((Rows.scenarioLinesRow.wideKeys==(Tryz.f3.params.toList++(Yu Rows.scenarioLinesSpec).bare.plain.varTypes Xn++Tryz.f3.resultTypes.toList).any (Tryz.prog.wideKeysFrom ·)))=true:=aI
def fz1:((Yu Rows.scenarioLinesSpec).bare.vars.all (Tryz.prog.varReadable ·))=true:=aI
def fz2:(Tryz.f3.resultTypes.all (λt=>Tryz.prog.readableRec t&&WZ (t<Tryz.prog.types.size)))=true:=aI
def fz3:((Rows.scenarioLinesRow.ifacesOut==Tryz.f3.resultTypes.toList.any (Tryz.prog.ifacesRec ·)))=true:=aI
def fz4:((Rows.scenarioLinesRow.loopsOut==Tryz.f3.resultTypes.toList.any (Tryz.prog.loopsFrom ·)))=true:=aI
def fz5:((Rows.scenarioLinesRow.plainKeys==Tryz.prog.plainKeys))=true:=aI
def fz6:(Rows.scenarioLinesRow.shortTexts.isNone)=true:=aI
def fz7:(Tryz.prog.stopsHeard)=true:=aI
def fz8:(Tryz.prog.mayEnter)=true:=aI
def fz9:((Rows.scenarioLinesRow.lifted==Tryz.prog.liftsFinal))=true:=aI
def ga0:((Tryz.prog.make==WX Rows.scenarioLinesRow.make))=true:=aI
def ga1:((Rows.scenarioLinesRow.pinned==Rows.scenarioLinesRow.pinnedBy))=true:=aI
def ga2:((Rows.scenarioLinesRow.veiled==(Tryz.f3.params.toList++(Yu Rows.scenarioLinesSpec).bare.plain.varTypes Xn++Tryz.f3.resultTypes.toList).any (Tryz.prog.veiledRec ·)))=true:=aI
def ga3:(Rows.scenarioLinesRow.veiledFits Xn Tryz.f3.params.toList (Tryz.f3.params.toList++(Yu Rows.scenarioLinesSpec).bare.plain.varTypes Xn++Tryz.f3.resultTypes.toList))=true:=aI
def gr6:joinedFacts Xn 3 Tryz.f3 (Yu Rows.scenarioLinesSpec).bare Rows.scenarioLinesRow=true:=by unfold joinedFacts;simp only[Xh];exact⟨⟨⟨⟨⟨⟨⟨⟨⟨⟨⟨⟨⟨⟨⟨⟨⟨⟨⟨⟨⟨⟨⟨⟨⟨⟨⟨⟨⟨⟨⟨gb8,gb9⟩,gc0⟩,gc1⟩,gc2⟩,gc3⟩,gc4⟩,gc5⟩,gc6⟩,gc7⟩,gc8⟩,gc9⟩,gd0⟩,fy6⟩,fy7⟩,fy8⟩,fy9⟩,fz0⟩,fz1⟩,fz2⟩,fz3⟩,fz4⟩,fz5⟩,fz6⟩,fz7⟩,fz8⟩,fz9⟩,ga0⟩,aI⟩,ga1⟩,ga2⟩,ga3⟩
end
end Go.Proofs.YtpfienbhhhgpkaaGreatDoor
