/- Closed facts of the program, one each. -/
import Derived.Test.YtnjngdcbkkonnaaGreatDoorPY
set_option linter.unusedVariables false
set_option linter.unusedSimpArgs false
set_option maxRecDepth 100000
namespace Go.Proofs.YtnjngdcbkkonnaaGreatDoor
open Go Go.Abs Go.Z Go.RowKit
theorem q4w:mapsRowed Tryz.prog=true:=by kernel_rfl
theorem q5f:(Tryz.prog.stops == [])=true:=by kernel_rfl
theorem q5j:(Tryz.prog.stopKnobs == [])=true:=by kernel_rfl
theorem q46:(Rows.crossoverPartsRow.plainKeys == Tryz.prog.plainKeys)=true:=by kernel_rfl
theorem q4q:Tryz.prog.stopsHeard=true:=by kernel_rfl
theorem q4r:Tryz.prog.mayEnter=true:=by kernel_rfl
theorem q4j:(Rows.crossoverPartsRow.lifted == Tryz.prog.liftsFinal)=true:=by kernel_rfl
theorem q6i:(Tryz.prog.make == some Rows.crossoverPartsRow.make)=true:=by kernel_rfl
theorem q7f : Tryz.prog.mainIs = some (true, "1b137b5074cd62955587cfa04bcaa679776963b89422bbb2bd8fd54760d6b645".toList) := by kernel_rfl
theorem q4z:false=Tryz.prog.looks []:=by kernel_rfl
end Go.Proofs.YtnjngdcbkkonnaaGreatDoor
