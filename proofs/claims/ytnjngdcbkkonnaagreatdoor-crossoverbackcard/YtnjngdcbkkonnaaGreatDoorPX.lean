/- Closed facts of the program, one each. -/
import Derived.Test.YtnjngdcbkkonnaaGreatDoorPY
set_option linter.unusedVariables false
set_option linter.unusedSimpArgs false
set_option maxRecDepth 100000
namespace Go.Proofs.YtnjngdcbkkonnaaGreatDoor
open Go Go.Abs Go.Z Go.RowKit
theorem q27:mapsRowed Tryz.prog=true:=by kernel_rfl
theorem q37:(Tryz.prog.stops == [])=true:=by kernel_rfl
theorem q30:(Tryz.prog.stopKnobs == [])=true:=by kernel_rfl
theorem q4p:(Rows.crossoverPartsRow.plainKeys == Tryz.prog.plainKeys)=true:=by kernel_rfl
theorem q38:Tryz.prog.stopsHeard=true:=by kernel_rfl
theorem q4c:Tryz.prog.mayEnter=true:=by kernel_rfl
theorem q4x:(Rows.crossoverPartsRow.lifted == Tryz.prog.liftsFinal)=true:=by kernel_rfl
theorem q5r:(Tryz.prog.make == some Rows.crossoverPartsRow.make)=true:=by kernel_rfl
theorem q70 : Tryz.prog.mainIs = some (true, "1b137b5074cd62955587cfa04bcaa679776963b89422bbb2bd8fd54760d6b645".toList) := by kernel_rfl
theorem q4v:false=Tryz.prog.looks []:=by kernel_rfl
end Go.Proofs.YtnjngdcbkkonnaaGreatDoor
