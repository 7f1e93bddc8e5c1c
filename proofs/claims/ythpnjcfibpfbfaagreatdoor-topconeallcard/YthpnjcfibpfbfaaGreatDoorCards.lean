/-
  DERIVED. GIVEN WITH THE SEED: THE CARDS: each row of YthpnjcfibpfbfaaGreatDoorRows.lean that lists a variable, with what it lists TIED to the program's text (the seventh form; the later family's looks); each row that meets fmt, with fmt's text TOLD by the authors' own Lean function (tested against real Go, not proved from fmt's source: count such statements apart). THE CARD IS WHAT COUNTS. Prove the row's statement (the work); the ties are given (YthpnjcfibpfbfaaGreatDoorTie.lean); close each card by the builder's one call (the guide's Derived/Test/ToyasCard.lean, 'card_holds'). Laid BY PROGRAM, IN A SANDBOX (cutbox-door.mjs). By AI agents, Wed Nov 11 2026. No macro, syntax, notation, axiom, sorry.
-/
import Derived.Test.YthpnjcfibpfbfaaGreatDoorRows
import GoSem.ClaimSeven
namespace Go.Proofs.YthpnjcfibpfbfaaGreatDoor
namespace Rows

/-- THE TIED CARD OF 'wooferlaw04.CrossoverEither'. -/
def crossoverEitherCard : Claim7 := { stood := { row := crossoverEitherRow, standIns := [], harness := (true, "f2c8580cf2dad7b7ddf975e494f2653d3ebb0c81b81f9da25baac4d43574b4c9"), looks := false }, kinds := [], alts := [], laidByText := true, laidKinds := [.data, .data, .data, .data, .data], laidTests := true, laidLooks := .later }
def CrossoverEitherCardSaid : Prop := Claim7.holds Tryz.pinned (.plain (OpenSpec.ofChange crossoverEitherSpec)) crossoverEitherCard

/-- THE TIED CARD OF 'woofertop.TopConeAll'. -/
def topConeAllCard : Claim7 := { stood := { row := topConeAllRow, standIns := [], harness := (true, "f2c8580cf2dad7b7ddf975e494f2653d3ebb0c81b81f9da25baac4d43574b4c9"), looks := false }, kinds := [], alts := [], laidByText := true, laidKinds := [.data, .data, .data, .data, .data], laidTests := true, laidLooks := .later }
def TopConeAllCardSaid : Prop := Claim7.holds Tryz.pinned (.plain (OpenSpec.ofChange topConeAllSpec)) topConeAllCard

/-- THE SECOND FORM's CARD OF 'wooferlaw04.CrossoverEither'. -/
def crossoverEitherUptoCard : Claim7 := { stood := { row := crossoverEitherUptoRow, standIns := [], harness := (true, "f2c8580cf2dad7b7ddf975e494f2653d3ebb0c81b81f9da25baac4d43574b4c9"), looks := false }, kinds := [], alts := [], laidByText := true, laidKinds := [.data, .data, .data, .data, .data], laidTests := true, laidLooks := .later }
def CrossoverEitherUptoCardSaid : Prop := Claim7.holds Tryz.pinned (.plain (OpenSpec.upto crossoverEitherSpec)) crossoverEitherUptoCard

/-- THE SECOND FORM's CARD OF 'woofertop.TopConeAll'. -/
def topConeAllUptoCard : Claim7 := { stood := { row := topConeAllUptoRow, standIns := [], harness := (true, "f2c8580cf2dad7b7ddf975e494f2653d3ebb0c81b81f9da25baac4d43574b4c9"), looks := false }, kinds := [], alts := [], laidByText := true, laidKinds := [.data, .data, .data, .data, .data], laidTests := true, laidLooks := .later }
def TopConeAllUptoCardSaid : Prop := Claim7.holds Tryz.pinned (.plain (OpenSpec.upto topConeAllSpec)) topConeAllUptoCard
end Rows
end Go.Proofs.YthpnjcfibpfbfaaGreatDoor
