/- Closed facts of the program, one each. -/
import Derived.Test.YtfopaakmgogpiaaGreatDoorPY
set_option linter.unusedVariables false
set_option linter.unusedSimpArgs false
set_option maxRecDepth 100000
namespace Go.Proofs.YtfopaakmgogpiaaGreatDoor
open Go Go.Abs Go.Z Go.RowKit
theorem jm6:mapsRowed Tryz.prog=true:=by kernel_rfl
theorem jlq:(Tryz.prog.stops == [])=true:=by kernel_rfl
theorem jlx:(Tryz.prog.stopKnobs == [])=true:=by kernel_rfl
theorem jls:(Rows.worksEventsRow.plainKeys == Tryz.prog.plainKeys)=true:=by kernel_rfl
theorem jm0:Tryz.prog.stopsHeard=true:=by kernel_rfl
theorem jlh:Tryz.prog.mayEnter=true:=by kernel_rfl
theorem jm2:(Rows.worksEventsRow.lifted == Tryz.prog.liftsFinal)=true:=by kernel_rfl
theorem jpm:(Tryz.prog.make == some Rows.worksEventsRow.make)=true:=by kernel_rfl
theorem jq2 : Tryz.prog.mainIs = some (true, "6129b98b9c5c6310e220ac45be93c11f79b838ff938c88dd71e495a1e58b721a".toList) := by kernel_rfl
theorem jku:false=Tryz.prog.looks []:=by kernel_rfl
end Go.Proofs.YtfopaakmgogpiaaGreatDoor
