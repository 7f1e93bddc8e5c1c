/- Closed facts of the program, one each. -/
import Derived.Test.YtfopaakmgogpiaaGreatDoorPY
set_option linter.unusedVariables false
set_option linter.unusedSimpArgs false
set_option maxRecDepth 100000
namespace Go.Proofs.YtfopaakmgogpiaaGreatDoor
open Go Go.Abs Go.Z Go.RowKit
theorem jkh:mapsRowed Tryz.prog=true:=by kernel_rfl
theorem jkm:(Tryz.prog.stops == [])=true:=by kernel_rfl
theorem jl1:(Tryz.prog.stopKnobs == [])=true:=by kernel_rfl
theorem jl0:(Rows.worksEventsRow.plainKeys == Tryz.prog.plainKeys)=true:=by kernel_rfl
theorem jlb:Tryz.prog.stopsHeard=true:=by kernel_rfl
theorem jlj:Tryz.prog.mayEnter=true:=by kernel_rfl
theorem jmp:(Rows.worksEventsRow.lifted == Tryz.prog.liftsFinal)=true:=by kernel_rfl
theorem jph:(Tryz.prog.make == some Rows.worksEventsRow.make)=true:=by kernel_rfl
theorem js9 : Tryz.prog.mainIs = some (true, "6129b98b9c5c6310e220ac45be93c11f79b838ff938c88dd71e495a1e58b721a".toList) := by kernel_rfl
theorem jkl:false=Tryz.prog.looks []:=by kernel_rfl
end Go.Proofs.YtfopaakmgogpiaaGreatDoor
