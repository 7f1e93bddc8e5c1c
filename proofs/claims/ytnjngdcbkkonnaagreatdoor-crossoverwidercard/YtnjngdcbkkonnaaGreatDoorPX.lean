/- Closed facts of the program, one each. -/
import Derived.Test.YtnjngdcbkkonnaaGreatDoorPY
set_option linter.unusedVariables false
set_option linter.unusedSimpArgs false
set_option maxRecDepth 100000
namespace Go.Proofs.YtnjngdcbkkonnaaGreatDoor
open Go Go.Abs Go.Z Go.RowKit
theorem jkh:mapsRowed Tryz.prog=true:=by kernel_rfl
theorem jjn:(Tryz.prog.stops == [])=true:=by kernel_rfl
theorem jkv:(Tryz.prog.stopKnobs == [])=true:=by kernel_rfl
theorem jk1:(Rows.crossoverPartsRow.plainKeys == Tryz.prog.plainKeys)=true:=by kernel_rfl
theorem jj3:Tryz.prog.stopsHeard=true:=by kernel_rfl
theorem jj8:Tryz.prog.mayEnter=true:=by kernel_rfl
theorem jkw:(Rows.crossoverPartsRow.lifted == Tryz.prog.liftsFinal)=true:=by kernel_rfl
theorem jl5:(Tryz.prog.make == some Rows.crossoverPartsRow.make)=true:=by kernel_rfl
theorem jmy : Tryz.prog.mainIs = some (true, "1b137b5074cd62955587cfa04bcaa679776963b89422bbb2bd8fd54760d6b645".toList) := by kernel_rfl
theorem jkm:false=Tryz.prog.looks []:=by kernel_rfl
end Go.Proofs.YtnjngdcbkkonnaaGreatDoor
