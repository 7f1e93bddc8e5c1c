/-
  DERIVED. GIVEN WITH THE SEED: THE CARDS: each row of YtlhfdilpecnjeaaGreatDoorRows.lean that lists a variable, with what it lists TIED to the program's text (the seventh form; the later family's looks); each row that meets fmt, with fmt's text TOLD by the authors' own Lean function (tested against real Go, not proved from fmt's source: count such statements apart). THE CARD IS WHAT COUNTS. Prove the row's statement (the work); the ties are given (YtlhfdilpecnjeaaGreatDoorTie.lean); close each card by the builder's one call (the guide's Derived/Test/ToyasCard.lean, 'card_holds'). Laid BY PROGRAM, IN A SANDBOX (cutbox-door.mjs). By AI agents, Wed Nov 11 2026. No macro, syntax, notation, axiom, sorry.
-/
import Derived.Test.YtlhfdilpecnjeaaGreatDoorRows
import GoSem.ClaimSeven
namespace Go.Proofs.YtlhfdilpecnjeaaGreatDoor
namespace Rows

/-- THE TIED CARD OF 'wooferlaw10.WorksSessions'. -/
def worksSessionsCard : Claim7 := { stood := { row := worksSessionsRow, standIns := [], harness := (true, "6ebe9f5257bc28bbdf1043ac69240590c05c4215ff9701c5d64b0de29936156d"), looks := false }, kinds := [], alts := [], laidByText := true, laidKinds := [.data, .data, .data, .data, .pinned], laidTests := true, laidLooks := .later }
def WorksSessionsCardSaid : Prop := Claim7.holds Tryz.pinned (.plain (OpenSpec.ofChange worksSessionsSpec)) worksSessionsCard

/-- THE TIED CARD OF 'wooferlaw10.WorksTorn'. -/
def worksTornCard : Claim7 := { stood := { row := worksTornRow, standIns := [], harness := (true, "6ebe9f5257bc28bbdf1043ac69240590c05c4215ff9701c5d64b0de29936156d"), looks := false }, kinds := [], alts := [], laidByText := true, laidKinds := [.data, .data, .data, .data, .pinned], laidTests := true, laidLooks := .later }
def WorksTornCardSaid : Prop := Claim7.holds Tryz.pinned (.plain (OpenSpec.ofChange worksTornSpec)) worksTornCard

/-- THE SECOND FORM's CARD OF 'wooferlaw10.WorksSessions'. -/
def worksSessionsUptoCard : Claim7 := { stood := { row := worksSessionsUptoRow, standIns := [], harness := (true, "6ebe9f5257bc28bbdf1043ac69240590c05c4215ff9701c5d64b0de29936156d"), looks := false }, kinds := [], alts := [], laidByText := true, laidKinds := [.data, .data, .data, .data, .pinned], laidTests := true, laidLooks := .later }
def WorksSessionsUptoCardSaid : Prop := Claim7.holds Tryz.pinned (.plain (OpenSpec.upto worksSessionsSpec)) worksSessionsUptoCard

/-- THE SECOND FORM's CARD OF 'wooferlaw10.WorksTorn'. -/
def worksTornUptoCard : Claim7 := { stood := { row := worksTornUptoRow, standIns := [], harness := (true, "6ebe9f5257bc28bbdf1043ac69240590c05c4215ff9701c5d64b0de29936156d"), looks := false }, kinds := [], alts := [], laidByText := true, laidKinds := [.data, .data, .data, .data, .pinned], laidTests := true, laidLooks := .later }
def WorksTornUptoCardSaid : Prop := Claim7.holds Tryz.pinned (.plain (OpenSpec.upto worksTornSpec)) worksTornUptoCard
end Rows
end Go.Proofs.YtlhfdilpecnjeaaGreatDoor
