/-
  DERIVED. GIVEN WITH THE SEED: THE CARDS: each row of YtoaianfagfampaaGreatDoorRows.lean that lists a variable, with what it lists TIED to the program's text (the seventh form; the later family's looks); each row that meets fmt, with fmt's text TOLD by the authors' own Lean function (tested against real Go, not proved from fmt's source: count such statements apart). THE CARD IS WHAT COUNTS. Prove the row's statement (the work); the ties are given (YtoaianfagfampaaGreatDoorTie.lean); close each card by the builder's one call (the guide's Derived/Test/ToyasCard.lean, 'card_holds'). Laid BY PROGRAM, IN A SANDBOX (cutbox-door.mjs). By AI agents, Wed Nov 11 2026. No macro, syntax, notation, axiom, sorry.
-/
import Derived.Test.YtoaianfagfampaaGreatDoorRows
import GoSem.ClaimSeven
namespace Go.Proofs.YtoaianfagfampaaGreatDoor
namespace Rows

/-- THE TIED CARD OF 'woofertop.TopCoilCrashes'. -/
def topCoilCrashesCard : Claim7 := { stood := { row := topCoilCrashesRow, standIns := [], harness := (true, "dfa8ae539e78c4fb14fcf0ba18d2bdbfe3fb8d47874de69a7cb941a8488a4277"), looks := false }, kinds := [], alts := [], laidByText := true, laidKinds := [.data, .data, .data, .data, .pinned], laidTests := true, laidLooks := .later }
def TopCoilCrashesCardSaid : Prop := Claim7.holds Tryz.pinned (.plain (OpenSpec.ofChange topCoilCrashesSpec)) topCoilCrashesCard

/-- THE SECOND FORM's CARD OF 'woofertop.TopCoilCrashes'. -/
def topCoilCrashesUptoCard : Claim7 := { stood := { row := topCoilCrashesUptoRow, standIns := [], harness := (true, "dfa8ae539e78c4fb14fcf0ba18d2bdbfe3fb8d47874de69a7cb941a8488a4277"), looks := false }, kinds := [], alts := [], laidByText := true, laidKinds := [.data, .data, .data, .data, .pinned], laidTests := true, laidLooks := .later }
def TopCoilCrashesUptoCardSaid : Prop := Claim7.holds Tryz.pinned (.plain (OpenSpec.upto topCoilCrashesSpec)) topCoilCrashesUptoCard
end Rows
end Go.Proofs.YtoaianfagfampaaGreatDoor
