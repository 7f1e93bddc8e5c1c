/-
  Closed facts of the program, one each. No conditions.
-/
import Derived.Test.YtnjngdcbkkonnaaGreatDoorPY
set_option linter.unusedVariables false
set_option linter.unusedSimpArgs false
set_option maxRecDepth 100000
namespace Go.Proofs.YtnjngdcbkkonnaaGreatDoor
open Go Go.Abs Go.Z Go.RowKit
theorem q9u:mapsRowed Tryz.prog=true:=by kernel_rfl
theorem q9p:(Tryz.prog.stops == [])=true:=by kernel_rfl
theorem q99:(Tryz.prog.stopKnobs == [])=true:=by kernel_rfl
theorem q8w:(Rows.crossoverPartsRow.plainKeys == Tryz.prog.plainKeys)=true:=by kernel_rfl
theorem q9j:Tryz.prog.stopsHeard=true:=by kernel_rfl
theorem q8x:Tryz.prog.mayEnter=true:=by kernel_rfl
theorem jaa:(Rows.crossoverPartsRow.lifted == Tryz.prog.liftsFinal)=true:=by kernel_rfl
theorem jbq:(Tryz.prog.make == some Rows.crossoverPartsRow.make)=true:=by kernel_rfl
theorem ja9 : Tryz.prog.mainIs = some (true, "1b137b5074cd62955587cfa04bcaa679776963b89422bbb2bd8fd54760d6b645".toList) := by kernel_rfl
theorem q87:false=Tryz.prog.looks []:=by kernel_rfl
end Go.Proofs.YtnjngdcbkkonnaaGreatDoor
