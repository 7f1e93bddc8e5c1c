/- Closed facts of the program, one each. -/
import Derived.Test.YtnjngdcbkkonnaaGreatDoorPY
set_option linter.unusedVariables false
set_option linter.unusedSimpArgs false
set_option maxRecDepth 100000
namespace Go.Proofs.YtnjngdcbkkonnaaGreatDoor
open Go Go.Abs Go.Z Go.RowKit
theorem ja9:mapsRowed Tryz.prog=true:=by kernel_rfl
theorem jbn:(Tryz.prog.stops == [])=true:=by kernel_rfl
theorem q99:(Tryz.prog.stopKnobs == [])=true:=by kernel_rfl
theorem jbv:(Rows.crossoverPartsRow.plainKeys == Tryz.prog.plainKeys)=true:=by kernel_rfl
theorem q95:Tryz.prog.stopsHeard=true:=by kernel_rfl
theorem jaj:Tryz.prog.mayEnter=true:=by kernel_rfl
theorem jbc:(Rows.crossoverPartsRow.lifted == Tryz.prog.liftsFinal)=true:=by kernel_rfl
theorem jek:(Tryz.prog.make == some Rows.crossoverPartsRow.make)=true:=by kernel_rfl
theorem jfu : Tryz.prog.mainIs = some (true, "1b137b5074cd62955587cfa04bcaa679776963b89422bbb2bd8fd54760d6b645".toList) := by kernel_rfl
theorem jbo:false=Tryz.prog.looks []:=by kernel_rfl
end Go.Proofs.YtnjngdcbkkonnaaGreatDoor
