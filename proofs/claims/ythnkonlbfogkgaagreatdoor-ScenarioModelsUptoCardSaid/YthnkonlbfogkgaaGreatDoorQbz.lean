/- A part of the proof. -/
import Derived.Test.YthnkonlbfogkgaaGreatDoorQa
import Derived.Test.YthnkonlbfogkgaaGreatDoorRows
import Derived.Test.YthnkonlbfogkgaaGreatDoorCards
import Derived.Test.YthnkonlbfogkgaaGreatDoorTie
set_option linter.unusedVariables false
set_option linter.unusedSimpArgs false
set_option maxRecDepth 100000
set_option maxHeartbeats 32000000
namespace Go.Proofs.YthnkonlbfogkgaaGreatDoor
open Go Go.RowKit Go.ChangeShapes Go.WideShapes Go.ChangeAt Go.Proofs.Tryz
open Go.ChangeMaps (open_string shut_string)
theorem N7:(Rows.scenarioModelsUptoRow.wf (OpenSpec.ofChange (Rows.OpenSpec.upto Rows.scenarioModelsSpec).bare))=true:=by kernel_rfl
theorem N8:(laidOutB prog)=true:=by kernel_rfl
theorem N9:(mapsRowed prog)=true:=by kernel_rfl
theorem Oa:(Tryz.f4.params.all (Tryz.prog.readableRec ·))=true:=by kernel_rfl
theorem Ob:(namedTie prog Rows.scenarioModelsUptoRow.named (Rows.OpenSpec.upto Rows.scenarioModelsSpec).bare.vars)=true:=by kernel_rfl
theorem Oc:((Rows.scenarioModelsUptoRow.stops==[]))=true:=by kernel_rfl
theorem Od:((Tryz.prog.stops==[]))=true:=by kernel_rfl
theorem Oe:((Rows.scenarioModelsUptoRow.knobs==[]))=true:=by kernel_rfl
theorem Of:((Tryz.prog.stopKnobs==[]))=true:=by kernel_rfl
theorem Og:((Rows.scenarioModelsUptoRow.inPlace==Tryz.prog.inPlace 4))=true:=by kernel_rfl
theorem Oh:((Rows.scenarioModelsUptoRow.unfollowed==Tryz.prog.unfollowed 4))=true:=by kernel_rfl
theorem Oi:((Rows.scenarioModelsUptoRow.recurses==Tryz.prog.recurses 4))=true:=by kernel_rfl
theorem Oj:((Rows.scenarioModelsUptoRow.named==Tryz.prog.varsNamed 4))=true:=by kernel_rfl
theorem Ol:((Rows.scenarioModelsUptoRow.maps==(Tryz.f4.params.toList++(Rows.OpenSpec.upto Rows.scenarioModelsSpec).bare.plain.varTypes prog).any (Tryz.prog.mapsRec ·)))=true:=by kernel_rfl
theorem Om:((Rows.scenarioModelsUptoRow.ifaces==(Tryz.f4.params.toList++(Rows.OpenSpec.upto Rows.scenarioModelsSpec).bare.plain.varTypes prog).any (Tryz.prog.ifacesRec ·)))=true:=by kernel_rfl
theorem On:((Rows.scenarioModelsUptoRow.mapsOut==Tryz.prog.mapsAmong Tryz.f4.resultTypes.toList))=true:=by kernel_rfl
theorem Oo:((Rows.scenarioModelsUptoRow.loops==(Tryz.f4.params.toList++(Rows.OpenSpec.upto Rows.scenarioModelsSpec).bare.plain.varTypes prog).any (Tryz.prog.loopsFrom ·)))=true:=by kernel_rfl
theorem Oq:((Rows.scenarioModelsUptoRow.wideKeys==(Tryz.f4.params.toList++(Rows.OpenSpec.upto Rows.scenarioModelsSpec).bare.plain.varTypes prog++Tryz.f4.resultTypes.toList).any (Tryz.prog.wideKeysFrom ·)))=true:=by kernel_rfl
theorem Ot:((Rows.OpenSpec.upto Rows.scenarioModelsSpec).bare.vars.all (Tryz.prog.varReadable ·))=true:=by kernel_rfl
theorem Ou:(Tryz.f4.resultTypes.all (fun t=>Tryz.prog.readableRec t&&decide (t<Tryz.prog.types.size)))=true:=by kernel_rfl
theorem Ov:((Rows.scenarioModelsUptoRow.ifacesOut==Tryz.f4.resultTypes.toList.any (Tryz.prog.ifacesRec ·)))=true:=by kernel_rfl
theorem Ow:((Rows.scenarioModelsUptoRow.loopsOut==Tryz.f4.resultTypes.toList.any (Tryz.prog.loopsFrom ·)))=true:=by kernel_rfl
theorem Ox:((Rows.scenarioModelsUptoRow.plainKeys==Tryz.prog.plainKeys))=true:=by kernel_rfl
theorem Oy:(Rows.scenarioModelsUptoRow.shortTexts.isNone)=true:=by kernel_rfl
theorem Oz:(Tryz.prog.stopsHeard)=true:=by kernel_rfl
theorem OB:(Tryz.prog.mayEnter)=true:=by kernel_rfl
theorem OC:((Rows.scenarioModelsUptoRow.lifted==Tryz.prog.liftsFinal))=true:=by kernel_rfl
theorem OD:((Tryz.prog.make==some Rows.scenarioModelsUptoRow.make))=true:=by kernel_rfl
theorem OE:((Rows.scenarioModelsUptoRow.pinned==Rows.scenarioModelsUptoRow.pinnedBy))=true:=by kernel_rfl
theorem OF:((Rows.scenarioModelsUptoRow.veiled==(Tryz.f4.params.toList++(Rows.OpenSpec.upto Rows.scenarioModelsSpec).bare.plain.varTypes prog++Tryz.f4.resultTypes.toList).any (Tryz.prog.veiledRec ·)))=true:=by kernel_rfl
theorem OG:(Rows.scenarioModelsUptoRow.veiledFits prog Tryz.f4.params.toList (Tryz.f4.params.toList++(Rows.OpenSpec.upto Rows.scenarioModelsSpec).bare.plain.varTypes prog++Tryz.f4.resultTypes.toList))=true:=by kernel_rfl
theorem mj:joinedFacts prog 4 Tryz.f4 (Rows.OpenSpec.upto Rows.scenarioModelsSpec).bare Rows.scenarioModelsUptoRow=true:=by
 unfold joinedFacts
 simp only[Bool.and_eq_true]
 exact⟨⟨⟨⟨⟨⟨⟨⟨⟨⟨⟨⟨⟨⟨⟨⟨⟨⟨⟨⟨⟨⟨⟨⟨⟨⟨⟨⟨⟨⟨⟨N7,N8⟩,N9⟩,Oa⟩,Ob⟩,Oc⟩,Od⟩,Oe⟩,Of⟩,Og⟩,Oh⟩,Oi⟩,Oj⟩,Ol⟩,Om⟩,On⟩,Oo⟩,Oq⟩,Ot⟩,Ou⟩,Ov⟩,Ow⟩,Ox⟩,Oy⟩,Oz⟩,OB⟩,OC⟩,OD⟩,(by kernel_rfl)⟩,OE⟩,OF⟩,OG⟩
end Go.Proofs.YthnkonlbfogkgaaGreatDoor
