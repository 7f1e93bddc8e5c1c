/-
  DERIVED. GIVEN WITH THE SEED: THE CARDS: each row of YtlonjmhacojkjaaGreatDoorRows.lean that lists a variable, with what it lists TIED to the program's text (the seventh form; the later family's looks); each row that meets fmt, with fmt's text TOLD by the authors' own Lean function (tested against real Go, not proved from fmt's source: count such statements apart). THE CARD IS WHAT COUNTS. Prove the row's statement (the work); the ties are given (YtlonjmhacojkjaaGreatDoorTie.lean); close each card by the builder's one call (the guide's Derived/Test/ToyasCard.lean, 'card_holds'). Laid BY PROGRAM, IN A SANDBOX (cutbox-door.mjs). By AI agents, Wed Nov 11 2026. No macro, syntax, notation, axiom, sorry.
-/
import Derived.Test.YtlonjmhacojkjaaGreatDoorRows
import GoSem.ClaimSeven
namespace Go.Proofs.YtlonjmhacojkjaaGreatDoor
namespace Rows

/-- THE TIED CARD OF 'woofertop.TopConeLine'. -/
def topConeLineCard : Claim7 := { stood := { row := topConeLineRow, standIns := [], harness := (true, "727bc40cd448715511d2f627dfd0fbb2cbdeafb1d4077fda9d07ffdb0d2458ca"), looks := false }, kinds := [], alts := [], laidByText := true, laidKinds := [.data, .data, .data, .data, .pinned], laidTests := true, laidLooks := .later }
def TopConeLineCardSaid : Prop := Claim7.holds Tryz.pinned (.plain (OpenSpec.ofChange topConeLineSpec)) topConeLineCard

/-- THE SECOND FORM's CARD OF 'woofertop.TopConeLine'. -/
def topConeLineUptoCard : Claim7 := { stood := { row := topConeLineUptoRow, standIns := [], harness := (true, "727bc40cd448715511d2f627dfd0fbb2cbdeafb1d4077fda9d07ffdb0d2458ca"), looks := false }, kinds := [], alts := [], laidByText := true, laidKinds := [.data, .data, .data, .data, .pinned], laidTests := true, laidLooks := .later }
def TopConeLineUptoCardSaid : Prop := Claim7.holds Tryz.pinned (.plain (OpenSpec.upto topConeLineSpec)) topConeLineUptoCard
end Rows
end Go.Proofs.YtlonjmhacojkjaaGreatDoor
