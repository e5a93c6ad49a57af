/- A part of the proof. -/
import Derived.Test.YthnkonlbfogkgaaGreatDoorQa
import Derived.Test.YthnkonlbfogkgaaGreatDoorRows
import Derived.Test.YthnkonlbfogkgaaGreatDoorCards
import Derived.Test.YthnkonlbfogkgaaGreatDoorTie
set_option linter.unusedVariables false
set_option linter.unusedSimpArgs false
set_option maxRecDepth 100000
set_option maxHeartbeats 32000000
namespace Go.Proofs.YthnkonlbfogkgaaGreatDoor
open Go Go.RowKit Go.ChangeShapes Go.WideShapes Go.ChangeAt Go.Proofs.Tryz
open Go.ChangeMaps (open_string shut_string)
theorem OI:Rows.scenarioModelsUptoRow.wfByText (Rows.OpenSpec.upto Rows.scenarioModelsSpec)=true:=by kernel_rfl
theorem OJ:Tryz.pinned.checked.prog.mainIs=some (true, "95bd029508536b5caa90ae204a4abb05856bec0c1b5de01c2d7940bd2d519ddc".toList):=by kernel_rfl
theorem OK:true=Tryz.prog.looks []:=by kernel_rfl
theorem OL:false=Rows.scenarioModelsUptoRow.goesBy prog:=by kernel_rfl
end Go.Proofs.YthnkonlbfogkgaaGreatDoor
