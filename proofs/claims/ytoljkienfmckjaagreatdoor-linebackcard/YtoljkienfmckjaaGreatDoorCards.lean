/-
  DERIVED. GIVEN WITH THE SEED: THE CARDS: each row of YtoljkienfmckjaaGreatDoorRows.lean that lists a variable, with what it lists TIED to the program's text (the seventh form; the later family's looks); each row that meets fmt, with fmt's text TOLD by the authors' own Lean function (tested against real Go, not proved from fmt's source: count such statements apart). THE CARD IS WHAT COUNTS. Prove the row's statement (the work); the ties are given (YtoljkienfmckjaaGreatDoorTie.lean); close each card by the builder's one call (the guide's Derived/Test/ToyasCard.lean, 'card_holds'). Laid BY PROGRAM, IN A SANDBOX (cutbox-door.mjs). By AI agents, Wed Nov 11 2026. No macro, syntax, notation, axiom, sorry.
-/
import Derived.Test.YtoljkienfmckjaaGreatDoorRows
import GoSem.ClaimSeven
namespace Go.Proofs.YtoljkienfmckjaaGreatDoor
namespace Rows

/-- THE TIED CARD OF 'wooferlaw09.LineTexts'. -/
def lineTextsCard : Claim7 := { stood := { row := lineTextsRow, standIns := [], harness := (true, "fed5af4775e23bb509f061479dbd8b3358ed1e9da73ec038bc3b2d9a29127c68"), looks := false }, kinds := [], alts := [], laidByText := true, laidKinds := [.data, .data, .data, .data, .pinned], laidTests := true, laidLooks := .later }
def LineTextsCardSaid : Prop := Claim7.holds Tryz.pinned (.plain (OpenSpec.ofChange lineTextsSpec)) lineTextsCard

/-- THE TIED CARD OF 'wooferlaw09.LineBack'. -/
def lineBackCard : Claim7 := { stood := { row := lineBackRow, standIns := [], harness := (true, "fed5af4775e23bb509f061479dbd8b3358ed1e9da73ec038bc3b2d9a29127c68"), looks := false }, kinds := [], alts := [], laidByText := true, laidKinds := [.data, .data, .data, .data, .pinned], laidTests := true, laidLooks := .later }
def LineBackCardSaid : Prop := Claim7.holds Tryz.pinned (.plain (OpenSpec.ofChange lineBackSpec)) lineBackCard

/-- THE SECOND FORM's CARD OF 'wooferlaw09.LineTexts'. -/
def lineTextsUptoCard : Claim7 := { stood := { row := lineTextsUptoRow, standIns := [], harness := (true, "fed5af4775e23bb509f061479dbd8b3358ed1e9da73ec038bc3b2d9a29127c68"), looks := false }, kinds := [], alts := [], laidByText := true, laidKinds := [.data, .data, .data, .data, .pinned], laidTests := true, laidLooks := .later }
def LineTextsUptoCardSaid : Prop := Claim7.holds Tryz.pinned (.plain (OpenSpec.upto lineTextsSpec)) lineTextsUptoCard

/-- THE SECOND FORM's CARD OF 'wooferlaw09.LineBack'. -/
def lineBackUptoCard : Claim7 := { stood := { row := lineBackUptoRow, standIns := [], harness := (true, "fed5af4775e23bb509f061479dbd8b3358ed1e9da73ec038bc3b2d9a29127c68"), looks := false }, kinds := [], alts := [], laidByText := true, laidKinds := [.data, .data, .data, .data, .pinned], laidTests := true, laidLooks := .later }
def LineBackUptoCardSaid : Prop := Claim7.holds Tryz.pinned (.plain (OpenSpec.upto lineBackSpec)) lineBackUptoCard
end Rows
end Go.Proofs.YtoljkienfmckjaaGreatDoor
