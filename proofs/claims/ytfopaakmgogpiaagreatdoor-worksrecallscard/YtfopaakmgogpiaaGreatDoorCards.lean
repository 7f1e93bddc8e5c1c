/-
  DERIVED. GIVEN WITH THE SEED: THE CARDS: each row of YtfopaakmgogpiaaGreatDoorRows.lean that lists a variable, with what it lists TIED to the program's text (the seventh form; the later family's looks); each row that meets fmt, with fmt's text TOLD by the authors' own Lean function (tested against real Go, not proved from fmt's source: count such statements apart). THE CARD IS WHAT COUNTS. Prove the row's statement (the work); the ties are given (YtfopaakmgogpiaaGreatDoorTie.lean); close each card by the builder's one call (the guide's Derived/Test/ToyasCard.lean, 'card_holds'). Laid BY PROGRAM, IN A SANDBOX (cutbox-door.mjs). By AI agents, Wed Nov 11 2026. No macro, syntax, notation, axiom, sorry.
-/
import Derived.Test.YtfopaakmgogpiaaGreatDoorRows
import GoSem.ClaimSeven
namespace Go.Proofs.YtfopaakmgogpiaaGreatDoor
namespace Rows

/-- THE TIED CARD OF 'wooferlaw10.WorksEvents'. -/
def worksEventsCard : Claim7 := { stood := { row := worksEventsRow, standIns := [], harness := (true, "6129b98b9c5c6310e220ac45be93c11f79b838ff938c88dd71e495a1e58b721a"), looks := false }, kinds := [], alts := [], laidByText := true, laidKinds := [.data, .data, .data, .data, .pinned], laidTests := true, laidLooks := .later }
def WorksEventsCardSaid : Prop := Claim7.holds Tryz.pinned (.plain (OpenSpec.ofChange worksEventsSpec)) worksEventsCard

/-- THE TIED CARD OF 'wooferlaw10.WorksDays'. -/
def worksDaysCard : Claim7 := { stood := { row := worksDaysRow, standIns := [], harness := (true, "6129b98b9c5c6310e220ac45be93c11f79b838ff938c88dd71e495a1e58b721a"), looks := false }, kinds := [], alts := [], laidByText := true, laidKinds := [.data, .data, .data, .data, .pinned], laidTests := true, laidLooks := .later }
def WorksDaysCardSaid : Prop := Claim7.holds Tryz.pinned (.plain (OpenSpec.ofChange worksDaysSpec)) worksDaysCard

/-- THE TIED CARD OF 'wooferlaw10.WorksTraces'. -/
def worksTracesCard : Claim7 := { stood := { row := worksTracesRow, standIns := [], harness := (true, "6129b98b9c5c6310e220ac45be93c11f79b838ff938c88dd71e495a1e58b721a"), looks := false }, kinds := [], alts := [], laidByText := true, laidKinds := [.data, .data, .data, .data, .pinned], laidTests := true, laidLooks := .later }
def WorksTracesCardSaid : Prop := Claim7.holds Tryz.pinned (.plain (OpenSpec.ofChange worksTracesSpec)) worksTracesCard

/-- THE TIED CARD OF 'wooferlaw10.WorksRecalls'. -/
def worksRecallsCard : Claim7 := { stood := { row := worksRecallsRow, standIns := [], harness := (true, "6129b98b9c5c6310e220ac45be93c11f79b838ff938c88dd71e495a1e58b721a"), looks := false }, kinds := [], alts := [], laidByText := true, laidKinds := [.data, .data, .data, .data, .pinned], laidTests := true, laidLooks := .later }
def WorksRecallsCardSaid : Prop := Claim7.holds Tryz.pinned (.plain (OpenSpec.ofChange worksRecallsSpec)) worksRecallsCard

/-- THE SECOND FORM's CARD OF 'wooferlaw10.WorksEvents'. -/
def worksEventsUptoCard : Claim7 := { stood := { row := worksEventsUptoRow, standIns := [], harness := (true, "6129b98b9c5c6310e220ac45be93c11f79b838ff938c88dd71e495a1e58b721a"), looks := false }, kinds := [], alts := [], laidByText := true, laidKinds := [.data, .data, .data, .data, .pinned], laidTests := true, laidLooks := .later }
def WorksEventsUptoCardSaid : Prop := Claim7.holds Tryz.pinned (.plain (OpenSpec.upto worksEventsSpec)) worksEventsUptoCard

/-- THE SECOND FORM's CARD OF 'wooferlaw10.WorksDays'. -/
def worksDaysUptoCard : Claim7 := { stood := { row := worksDaysUptoRow, standIns := [], harness := (true, "6129b98b9c5c6310e220ac45be93c11f79b838ff938c88dd71e495a1e58b721a"), looks := false }, kinds := [], alts := [], laidByText := true, laidKinds := [.data, .data, .data, .data, .pinned], laidTests := true, laidLooks := .later }
def WorksDaysUptoCardSaid : Prop := Claim7.holds Tryz.pinned (.plain (OpenSpec.upto worksDaysSpec)) worksDaysUptoCard

/-- THE SECOND FORM's CARD OF 'wooferlaw10.WorksTraces'. -/
def worksTracesUptoCard : Claim7 := { stood := { row := worksTracesUptoRow, standIns := [], harness := (true, "6129b98b9c5c6310e220ac45be93c11f79b838ff938c88dd71e495a1e58b721a"), looks := false }, kinds := [], alts := [], laidByText := true, laidKinds := [.data, .data, .data, .data, .pinned], laidTests := true, laidLooks := .later }
def WorksTracesUptoCardSaid : Prop := Claim7.holds Tryz.pinned (.plain (OpenSpec.upto worksTracesSpec)) worksTracesUptoCard

/-- THE SECOND FORM's CARD OF 'wooferlaw10.WorksRecalls'. -/
def worksRecallsUptoCard : Claim7 := { stood := { row := worksRecallsUptoRow, standIns := [], harness := (true, "6129b98b9c5c6310e220ac45be93c11f79b838ff938c88dd71e495a1e58b721a"), looks := false }, kinds := [], alts := [], laidByText := true, laidKinds := [.data, .data, .data, .data, .pinned], laidTests := true, laidLooks := .later }
def WorksRecallsUptoCardSaid : Prop := Claim7.holds Tryz.pinned (.plain (OpenSpec.upto worksRecallsSpec)) worksRecallsUptoCard
end Rows
end Go.Proofs.YtfopaakmgogpiaaGreatDoor
