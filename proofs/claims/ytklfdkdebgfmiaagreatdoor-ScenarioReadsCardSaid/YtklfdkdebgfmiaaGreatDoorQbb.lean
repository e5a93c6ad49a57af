/- A part of the proof. -/
import Derived.Test.YtklfdkdebgfmiaaGreatDoorQa
import Derived.Test.YtklfdkdebgfmiaaGreatDoorRows
set_option linter.defProp false
set_option linter.unusedVariables false
set_option linter.unusedSimpArgs false
set_option maxRecDepth 100000
set_option maxHeartbeats 32000000
open Option renaming some->Ws
open Decidable renaming decide->Wt
open Go.Proofs.Tryz renaming prog->WH
open Go.OpenSpec renaming ofChange->XY
namespace Go.Proofs.YtklfdkdebgfmiaaGreatDoor
section
open Go Go.RowKit Go.ChangeShapes Go.WideShapes Go.ChangeAt Go.Proofs.Tryz
open Go.ChangeMaps (open_string shut_string)
def gb1:(Rows.scenarioReadsRow.wf (XY Rows.scenarioReadsSpec))=true:=aC
def gb2:(laidOutB WH)=true:=aC
def gb3:(mapsRowed WH)=true:=aC
def gb4:(Tryz.f3.params.all (Tryz.prog.readableRec ·))=true:=aC
def gb5:(namedTie WH Rows.scenarioReadsRow.named (XY Rows.scenarioReadsSpec).bare.vars)=true:=aC
def gb6:((Rows.scenarioReadsRow.stops==[]))=true:=aC
def gb7:((Tryz.prog.stops==[]))=true:=aC
def gb8:((Rows.scenarioReadsRow.knobs==[]))=true:=aC
def gb9:((Tryz.prog.stopKnobs==[]))=true:=aC
def gc0:((Rows.scenarioReadsRow.inPlace==Tryz.prog.inPlace 3))=true:=aC
def fy7:((Rows.scenarioReadsRow.unfollowed==Tryz.prog.unfollowed 3))=true:=aC
def fy8:((Rows.scenarioReadsRow.recurses==Tryz.prog.recurses 3))=true:=aC
def fy9:((Rows.scenarioReadsRow.named==Tryz.prog.varsNamed 3))=true:=aC
def fz0:((Rows.scenarioReadsRow.maps==(Tryz.f3.params.toList++(XY Rows.scenarioReadsSpec).bare.plain.varTypes WH).any (Tryz.prog.mapsRec ·)))=true:=aC
def fz1:((Rows.scenarioReadsRow.ifaces==(Tryz.f3.params.toList++(XY Rows.scenarioReadsSpec).bare.plain.varTypes WH).any (Tryz.prog.ifacesRec ·)))=true:=aC
def fz2:((Rows.scenarioReadsRow.mapsOut==Tryz.prog.mapsAmong Tryz.f3.resultTypes.toList))=true:=aC
def fz3:((Rows.scenarioReadsRow.loops==(Tryz.f3.params.toList++(XY Rows.scenarioReadsSpec).bare.plain.varTypes WH).any (Tryz.prog.loopsFrom ·)))=true:=aC
def fz4:((Rows.scenarioReadsRow.wideKeys==(Tryz.f3.params.toList++(XY Rows.scenarioReadsSpec).bare.plain.varTypes WH++Tryz.f3.resultTypes.toList).any (Tryz.prog.wideKeysFrom ·)))=true:=aC
def fz5:((XY Rows.scenarioReadsSpec).bare.vars.all (Tryz.prog.varReadable ·))=true:=aC
def fz6:(Tryz.f3.resultTypes.all (λt=>Tryz.prog.readableRec t&&Wt (t<Tryz.prog.types.size)))=true:=aC
def ge8:((Rows.scenarioReadsRow.ifacesOut==Tryz.f3.resultTypes.toList.any (Tryz.prog.ifacesRec ·)))=true:=aC
def ge9:((Rows.scenarioReadsRow.loopsOut==Tryz.f3.resultTypes.toList.any (Tryz.prog.loopsFrom ·)))=true:=aC
def gf0:((Rows.scenarioReadsRow.plainKeys==Tryz.prog.plainKeys))=true:=aC
def gf1:(Rows.scenarioReadsRow.shortTexts.isNone)=true:=aC
def gf2:(Tryz.prog.stopsHeard)=true:=aC
def gf3:(Tryz.prog.mayEnter)=true:=aC
def gf4:((Rows.scenarioReadsRow.lifted==Tryz.prog.liftsFinal))=true:=aC
def gf5:((Tryz.prog.make==Ws Rows.scenarioReadsRow.make))=true:=aC
def gf6:((Rows.scenarioReadsRow.pinned==Rows.scenarioReadsRow.pinnedBy))=true:=aC
def gf7:((Rows.scenarioReadsRow.veiled==(Tryz.f3.params.toList++(XY Rows.scenarioReadsSpec).bare.plain.varTypes WH++Tryz.f3.resultTypes.toList).any (Tryz.prog.veiledRec ·)))=true:=aC
def gf8:(Rows.scenarioReadsRow.veiledFits WH Tryz.f3.params.toList (Tryz.f3.params.toList++(XY Rows.scenarioReadsSpec).bare.plain.varTypes WH++Tryz.f3.resultTypes.toList))=true:=aC
def gw1:joinedFacts WH 3 Tryz.f3 (XY Rows.scenarioReadsSpec).bare Rows.scenarioReadsRow=true:=by unfold joinedFacts;simp only[WC];exact⟨⟨⟨⟨⟨⟨⟨⟨⟨⟨⟨⟨⟨⟨⟨⟨⟨⟨⟨⟨⟨⟨⟨⟨⟨⟨⟨⟨⟨⟨⟨gb1,gb2⟩,gb3⟩,gb4⟩,gb5⟩,gb6⟩,gb7⟩,gb8⟩,gb9⟩,gc0⟩,fy7⟩,fy8⟩,fy9⟩,fz0⟩,fz1⟩,fz2⟩,fz3⟩,fz4⟩,fz5⟩,fz6⟩,ge8⟩,ge9⟩,gf0⟩,gf1⟩,gf2⟩,gf3⟩,gf4⟩,gf5⟩,aC⟩,gf6⟩,gf7⟩,gf8⟩
end
end Go.Proofs.YtklfdkdebgfmiaaGreatDoor
