/- A part of the proof. -/
import Derived.Test.YtihhpjmclebfpaaGreatDoorQa
import Derived.Test.YtihhpjmclebfpaaGreatDoorRows
set_option linter.defProp false
set_option linter.unusedVariables false
set_option linter.unusedSimpArgs false
set_option maxRecDepth 100000
set_option maxHeartbeats 32000000
open Option renaming some->XL
open Decidable renaming decide->XN
open Go renaming Program->Zh
open Bool renaming false->XQ
open Go.Proofs.Tryz renaming prog->X3
open Go.OpenSpec renaming ofChange->Y8
namespace Go.Proofs.YtihhpjmclebfpaaGreatDoor
section
open Go Go.RowKit Go.ChangeShapes Go.WideShapes Go.ChangeAt Go.Proofs.Tryz
open Go.ChangeMaps (open_string shut_string)
def gr0:(Rows.scenarioTextsRow.wf (Y8 Rows.scenarioTextsSpec))=true:=aI
def gr1:(laidOutB X3)=true:=aI
def gr2:(mapsRowed X3)=true:=aI
def gr3:(Tryz.f3.params.all (Tryz.prog.readableRec ·))=true:=aI
def gr4:(namedTie X3 Rows.scenarioTextsRow.named (Y8 Rows.scenarioTextsSpec).bare.vars)=true:=aI
def gr5:((Rows.scenarioTextsRow.stops==[]))=true:=aI
def gr6:((Tryz.prog.stops==[]))=true:=aI
def gr7:((Rows.scenarioTextsRow.knobs==[]))=true:=aI
def gr8:((Tryz.prog.stopKnobs==[]))=true:=aI
def gr9:((Rows.scenarioTextsRow.inPlace==Tryz.prog.inPlace 3))=true:=aI
def gs0:((Rows.scenarioTextsRow.unfollowed==Tryz.prog.unfollowed 3))=true:=aI
def gs1:((Rows.scenarioTextsRow.recurses==Tryz.prog.recurses 3))=true:=aI
def gs2:((Rows.scenarioTextsRow.named==Tryz.prog.varsNamed 3))=true:=aI
def gs3:((Rows.scenarioTextsRow.maps==(Tryz.f3.params.toList++(Y8 Rows.scenarioTextsSpec).bare.plain.varTypes X3).any (Tryz.prog.mapsRec ·)))=true:=aI
def gs4:((Rows.scenarioTextsRow.ifaces==(Tryz.f3.params.toList++(Y8 Rows.scenarioTextsSpec).bare.plain.varTypes X3).any (Tryz.prog.ifacesRec ·)))=true:=aI
def gs5:((Rows.scenarioTextsRow.mapsOut==Tryz.prog.mapsAmong Tryz.f3.resultTypes.toList))=true:=aI
def gs6:((Rows.scenarioTextsRow.loops==(Tryz.f3.params.toList++(Y8 Rows.scenarioTextsSpec).bare.plain.varTypes X3).any (Tryz.prog.loopsFrom ·)))=true:=aI
def gs7:((Rows.scenarioTextsRow.wideKeys==(Tryz.f3.params.toList++(Y8 Rows.scenarioTextsSpec).bare.plain.varTypes X3++Tryz.f3.resultTypes.toList).any (Tryz.prog.wideKeysFrom ·)))=true:=aI
def gs8:((Y8 Rows.scenarioTextsSpec).bare.vars.all (Tryz.prog.varReadable ·))=true:=aI
def gs9:(Tryz.f3.resultTypes.all λt=>Tryz.prog.readableRec t&&XN (t<Tryz.prog.types.size))=true:=aI
def gt0:((Rows.scenarioTextsRow.ifacesOut==Tryz.f3.resultTypes.toList.any (Tryz.prog.ifacesRec ·)))=true:=aI
def gt1:((Rows.scenarioTextsRow.loopsOut==Tryz.f3.resultTypes.toList.any (Tryz.prog.loopsFrom ·)))=true:=aI
def gt2:((Rows.scenarioTextsRow.plainKeys==Tryz.prog.plainKeys))=true:=aI
def gt3:(Rows.scenarioTextsRow.shortTexts.isNone)=true:=aI
def gt4:(Tryz.prog.stopsHeard)=true:=aI
def gt5:(Tryz.prog.mayEnter)=true:=aI
def gp9:((Rows.scenarioTextsRow.lifted==Tryz.prog.liftsFinal))=true:=aI
def gq0:((Tryz.prog.make==XL Rows.scenarioTextsRow.make))=true:=aI
def gq1:((Rows.scenarioTextsRow.pinned==Rows.scenarioTextsRow.pinnedBy))=true:=aI
def gq2:((Rows.scenarioTextsRow.veiled==(Tryz.f3.params.toList++(Y8 Rows.scenarioTextsSpec).bare.plain.varTypes X3++Tryz.f3.resultTypes.toList).any (Tryz.prog.veiledRec ·)))=true:=aI
def gq3:(Rows.scenarioTextsRow.veiledFits X3 Tryz.f3.params.toList (Tryz.f3.params.toList++(Y8 Rows.scenarioTextsSpec).bare.plain.varTypes X3++Tryz.f3.resultTypes.toList))=true:=aI
def hi1:joinedFacts X3 3 Tryz.f3 (Y8 Rows.scenarioTextsSpec).bare Rows.scenarioTextsRow=true:=by unfold joinedFacts;simp only[XW];exact⟨⟨⟨⟨⟨⟨⟨⟨⟨⟨⟨⟨⟨⟨⟨⟨⟨⟨⟨⟨⟨⟨⟨⟨⟨⟨⟨⟨⟨⟨⟨gr0,gr1⟩,gr2⟩,gr3⟩,gr4⟩,gr5⟩,gr6⟩,gr7⟩,gr8⟩,gr9⟩,gs0⟩,gs1⟩,gs2⟩,gs3⟩,gs4⟩,gs5⟩,gs6⟩,gs7⟩,gs8⟩,gs9⟩,gt0⟩,gt1⟩,gt2⟩,gt3⟩,gt4⟩,gt5⟩,gp9⟩,gq0⟩,aI⟩,gq1⟩,gq2⟩,gq3⟩
def gq4(P:Zh)(h:P.funcs.any Func.goes=XQ)(c:OpenClaim):XQ=c.goesBy P:=by
 have e:(λg:Nat=>(P.funcs[g]?).any Func.goes)=λ_=>false:=funext λg=>by
  cases e:P.funcs[g]? with
  |none=>rfl
  |some fn=>show fn.goes=XQ;obtain⟨j,he⟩:=Array.getElem?_eq_some_iff.1 e;have:=Array.any_eq_false.1 h g j;rw[he]at this;exact Bool.eq_false_iff.2 this
 have y:∀f,P.goes f=false:=λf=>by show((P.closure f).any (λg:Nat=>(P.funcs[g]?).any Func.goes)||(P.unfollowed f&&P.funcs.any Func.goes))=XQ;rw[h,Bool.and_false,Bool.or_false,e];simp
 have z:∀s,P.goesFrom s=false:=λs=>by
  unfold Program.goesFrom;cases P.funcNamed s with
  |none=>rfl
  |some f=>exact y f
 have j:P.inits.toList.any P.goes=false:=by rw[show P.goes=λ_=>XQ from funext y];simp
 unfold OpenClaim.goesBy Program.goesAt;rw[z];cases c.start<;>simp[j]
def gq5:XQ=Rows.scenarioTextsRow.goesBy prog:=gq4 _ aI _
end
end Go.Proofs.YtihhpjmclebfpaaGreatDoor
