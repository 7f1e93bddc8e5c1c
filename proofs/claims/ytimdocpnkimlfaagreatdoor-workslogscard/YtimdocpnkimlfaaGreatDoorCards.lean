/-
  DERIVED. GIVEN WITH THE SEED: THE CARDS: each row of YtimdocpnkimlfaaGreatDoorRows.lean that lists a variable, with what it lists TIED to the program's text (the seventh form; the later family's looks); each row that meets fmt, with fmt's text TOLD by the authors' own Lean function (tested against real Go, not proved from fmt's source: count such statements apart). THE CARD IS WHAT COUNTS. Prove the row's statement (the work); the ties are given (YtimdocpnkimlfaaGreatDoorTie.lean); close each card by the builder's one call (the guide's Derived/Test/ToyasCard.lean, 'card_holds'). Laid BY PROGRAM, IN A SANDBOX (cutbox-door.mjs). By AI agents, Wed Nov 11 2026. No macro, syntax, notation, axiom, sorry.
-/
import Derived.Test.YtimdocpnkimlfaaGreatDoorRows
import GoSem.ClaimSeven
namespace Go.Proofs.YtimdocpnkimlfaaGreatDoor
namespace Rows

/-- THE TIED CARD OF 'wooferlaw10.WorksTurns'. -/
def worksTurnsCard : Claim7 := { stood := { row := worksTurnsRow, standIns := [], harness := (true, "1bd47a6b7e681e5c8bd85b252bc129e10370a18833b6d87933be64800e006a4c"), looks := false }, kinds := [], alts := [], laidByText := true, laidKinds := [.data, .data, .data, .data, .pinned], laidTests := true, laidLooks := .later }
def WorksTurnsCardSaid : Prop := Claim7.holds Tryz.pinned (.plain (OpenSpec.ofChange worksTurnsSpec)) worksTurnsCard

/-- THE TIED CARD OF 'wooferlaw10.WorksPast'. -/
def worksPastCard : Claim7 := { stood := { row := worksPastRow, standIns := [], harness := (true, "1bd47a6b7e681e5c8bd85b252bc129e10370a18833b6d87933be64800e006a4c"), looks := false }, kinds := [], alts := [], laidByText := true, laidKinds := [.data, .data, .data, .data, .pinned], laidTests := true, laidLooks := .later }
def WorksPastCardSaid : Prop := Claim7.holds Tryz.pinned (.plain (OpenSpec.ofChange worksPastSpec)) worksPastCard

/-- THE TIED CARD OF 'wooferlaw10.WorksRecalled'. -/
def worksRecalledCard : Claim7 := { stood := { row := worksRecalledRow, standIns := [], harness := (true, "1bd47a6b7e681e5c8bd85b252bc129e10370a18833b6d87933be64800e006a4c"), looks := false }, kinds := [], alts := [], laidByText := true, laidKinds := [.data, .data, .data, .data, .pinned], laidTests := true, laidLooks := .later }
def WorksRecalledCardSaid : Prop := Claim7.holds Tryz.pinned (.plain (OpenSpec.ofChange worksRecalledSpec)) worksRecalledCard

/-- THE TIED CARD OF 'wooferlaw10.WorksShipped'. -/
def worksShippedCard : Claim7 := { stood := { row := worksShippedRow, standIns := [], harness := (true, "1bd47a6b7e681e5c8bd85b252bc129e10370a18833b6d87933be64800e006a4c"), looks := false }, kinds := [], alts := [], laidByText := true, laidKinds := [.data, .data, .data, .data, .pinned], laidTests := true, laidLooks := .later }
def WorksShippedCardSaid : Prop := Claim7.holds Tryz.pinned (.plain (OpenSpec.ofChange worksShippedSpec)) worksShippedCard

/-- THE TIED CARD OF 'wooferlaw10.WorksParts'. -/
def worksPartsCard : Claim7 := { stood := { row := worksPartsRow, standIns := [], harness := (true, "1bd47a6b7e681e5c8bd85b252bc129e10370a18833b6d87933be64800e006a4c"), looks := false }, kinds := [], alts := [], laidByText := true, laidKinds := [.data, .data, .data, .data, .pinned], laidTests := true, laidLooks := .later }
def WorksPartsCardSaid : Prop := Claim7.holds Tryz.pinned (.plain (OpenSpec.ofChange worksPartsSpec)) worksPartsCard

/-- THE TIED CARD OF 'wooferlaw10.WorksLogs'. -/
def worksLogsCard : Claim7 := { stood := { row := worksLogsRow, standIns := [], harness := (true, "1bd47a6b7e681e5c8bd85b252bc129e10370a18833b6d87933be64800e006a4c"), looks := false }, kinds := [], alts := [], laidByText := true, laidKinds := [.data, .data, .data, .data, .pinned], laidTests := true, laidLooks := .later }
def WorksLogsCardSaid : Prop := Claim7.holds Tryz.pinned (.plain (OpenSpec.ofChange worksLogsSpec)) worksLogsCard

/-- THE TIED CARD OF 'wooferlaw10.WorksSessions'. -/
def worksSessionsCard : Claim7 := { stood := { row := worksSessionsRow, standIns := [], harness := (true, "1bd47a6b7e681e5c8bd85b252bc129e10370a18833b6d87933be64800e006a4c"), looks := false }, kinds := [], alts := [], laidByText := true, laidKinds := [.data, .data, .data, .data, .pinned], laidTests := true, laidLooks := .later }
def WorksSessionsCardSaid : Prop := Claim7.holds Tryz.pinned (.plain (OpenSpec.ofChange worksSessionsSpec)) worksSessionsCard

/-- THE TIED CARD OF 'wooferlaw10.WorksTorn'. -/
def worksTornCard : Claim7 := { stood := { row := worksTornRow, standIns := [], harness := (true, "1bd47a6b7e681e5c8bd85b252bc129e10370a18833b6d87933be64800e006a4c"), looks := false }, kinds := [], alts := [], laidByText := true, laidKinds := [.data, .data, .data, .data, .pinned], laidTests := true, laidLooks := .later }
def WorksTornCardSaid : Prop := Claim7.holds Tryz.pinned (.plain (OpenSpec.ofChange worksTornSpec)) worksTornCard

/-- THE SECOND FORM's CARD OF 'wooferlaw10.WorksTurns'. -/
def worksTurnsUptoCard : Claim7 := { stood := { row := worksTurnsUptoRow, standIns := [], harness := (true, "1bd47a6b7e681e5c8bd85b252bc129e10370a18833b6d87933be64800e006a4c"), looks := false }, kinds := [], alts := [], laidByText := true, laidKinds := [.data, .data, .data, .data, .pinned], laidTests := true, laidLooks := .later }
def WorksTurnsUptoCardSaid : Prop := Claim7.holds Tryz.pinned (.plain (OpenSpec.upto worksTurnsSpec)) worksTurnsUptoCard

/-- THE SECOND FORM's CARD OF 'wooferlaw10.WorksPast'. -/
def worksPastUptoCard : Claim7 := { stood := { row := worksPastUptoRow, standIns := [], harness := (true, "1bd47a6b7e681e5c8bd85b252bc129e10370a18833b6d87933be64800e006a4c"), looks := false }, kinds := [], alts := [], laidByText := true, laidKinds := [.data, .data, .data, .data, .pinned], laidTests := true, laidLooks := .later }
def WorksPastUptoCardSaid : Prop := Claim7.holds Tryz.pinned (.plain (OpenSpec.upto worksPastSpec)) worksPastUptoCard

/-- THE SECOND FORM's CARD OF 'wooferlaw10.WorksRecalled'. -/
def worksRecalledUptoCard : Claim7 := { stood := { row := worksRecalledUptoRow, standIns := [], harness := (true, "1bd47a6b7e681e5c8bd85b252bc129e10370a18833b6d87933be64800e006a4c"), looks := false }, kinds := [], alts := [], laidByText := true, laidKinds := [.data, .data, .data, .data, .pinned], laidTests := true, laidLooks := .later }
def WorksRecalledUptoCardSaid : Prop := Claim7.holds Tryz.pinned (.plain (OpenSpec.upto worksRecalledSpec)) worksRecalledUptoCard

/-- THE SECOND FORM's CARD OF 'wooferlaw10.WorksShipped'. -/
def worksShippedUptoCard : Claim7 := { stood := { row := worksShippedUptoRow, standIns := [], harness := (true, "1bd47a6b7e681e5c8bd85b252bc129e10370a18833b6d87933be64800e006a4c"), looks := false }, kinds := [], alts := [], laidByText := true, laidKinds := [.data, .data, .data, .data, .pinned], laidTests := true, laidLooks := .later }
def WorksShippedUptoCardSaid : Prop := Claim7.holds Tryz.pinned (.plain (OpenSpec.upto worksShippedSpec)) worksShippedUptoCard

/-- THE SECOND FORM's CARD OF 'wooferlaw10.WorksParts'. -/
def worksPartsUptoCard : Claim7 := { stood := { row := worksPartsUptoRow, standIns := [], harness := (true, "1bd47a6b7e681e5c8bd85b252bc129e10370a18833b6d87933be64800e006a4c"), looks := false }, kinds := [], alts := [], laidByText := true, laidKinds := [.data, .data, .data, .data, .pinned], laidTests := true, laidLooks := .later }
def WorksPartsUptoCardSaid : Prop := Claim7.holds Tryz.pinned (.plain (OpenSpec.upto worksPartsSpec)) worksPartsUptoCard

/-- THE SECOND FORM's CARD OF 'wooferlaw10.WorksLogs'. -/
def worksLogsUptoCard : Claim7 := { stood := { row := worksLogsUptoRow, standIns := [], harness := (true, "1bd47a6b7e681e5c8bd85b252bc129e10370a18833b6d87933be64800e006a4c"), looks := false }, kinds := [], alts := [], laidByText := true, laidKinds := [.data, .data, .data, .data, .pinned], laidTests := true, laidLooks := .later }
def WorksLogsUptoCardSaid : Prop := Claim7.holds Tryz.pinned (.plain (OpenSpec.upto worksLogsSpec)) worksLogsUptoCard

/-- THE SECOND FORM's CARD OF 'wooferlaw10.WorksSessions'. -/
def worksSessionsUptoCard : Claim7 := { stood := { row := worksSessionsUptoRow, standIns := [], harness := (true, "1bd47a6b7e681e5c8bd85b252bc129e10370a18833b6d87933be64800e006a4c"), looks := false }, kinds := [], alts := [], laidByText := true, laidKinds := [.data, .data, .data, .data, .pinned], laidTests := true, laidLooks := .later }
def WorksSessionsUptoCardSaid : Prop := Claim7.holds Tryz.pinned (.plain (OpenSpec.upto worksSessionsSpec)) worksSessionsUptoCard

/-- THE SECOND FORM's CARD OF 'wooferlaw10.WorksTorn'. -/
def worksTornUptoCard : Claim7 := { stood := { row := worksTornUptoRow, standIns := [], harness := (true, "1bd47a6b7e681e5c8bd85b252bc129e10370a18833b6d87933be64800e006a4c"), looks := false }, kinds := [], alts := [], laidByText := true, laidKinds := [.data, .data, .data, .data, .pinned], laidTests := true, laidLooks := .later }
def WorksTornUptoCardSaid : Prop := Claim7.holds Tryz.pinned (.plain (OpenSpec.upto worksTornSpec)) worksTornUptoCard
end Rows
end Go.Proofs.YtimdocpnkimlfaaGreatDoor
