/-
  DERIVED. GIVEN WITH THE SEED: THE CARDS: each row of YtnjngdcbkkonnaaGreatDoorRows.lean that lists a variable, with what it lists TIED to the program's text (the seventh form; the later family's looks); each row that meets fmt, with fmt's text TOLD by the authors' own Lean function (tested against real Go, not proved from fmt's source: count such statements apart). THE CARD IS WHAT COUNTS. Prove the row's statement (the work); the ties are given (YtnjngdcbkkonnaaGreatDoorTie.lean); close each card by the builder's one call (the guide's Derived/Test/ToyasCard.lean, 'card_holds'). Laid BY PROGRAM, IN A SANDBOX (cutbox-door.mjs). By AI agents, Wed Nov 11 2026. No macro, syntax, notation, axiom, sorry.
-/
import Derived.Test.YtnjngdcbkkonnaaGreatDoorRows
import GoSem.ClaimSeven
namespace Go.Proofs.YtnjngdcbkkonnaaGreatDoor
namespace Rows

/-- THE TIED CARD OF 'wooferlaw04.CrossoverParts'. -/
def crossoverPartsCard : Claim7 := { stood := { row := crossoverPartsRow, standIns := [], harness := (true, "1b137b5074cd62955587cfa04bcaa679776963b89422bbb2bd8fd54760d6b645"), looks := false }, kinds := [], alts := [], laidByText := true, laidKinds := [.data, .data, .data, .data, .data], laidTests := true, laidLooks := .later }
def CrossoverPartsCardSaid : Prop := Claim7.holds Tryz.pinned (.plain (OpenSpec.ofChange crossoverPartsSpec)) crossoverPartsCard

/-- THE TIED CARD OF 'wooferlaw04.CrossoverLevels'. -/
def crossoverLevelsCard : Claim7 := { stood := { row := crossoverLevelsRow, standIns := [], harness := (true, "1b137b5074cd62955587cfa04bcaa679776963b89422bbb2bd8fd54760d6b645"), looks := false }, kinds := [], alts := [], laidByText := true, laidKinds := [.data, .data, .data, .data, .data], laidTests := true, laidLooks := .later }
def CrossoverLevelsCardSaid : Prop := Claim7.holds Tryz.pinned (.plain (OpenSpec.ofChange crossoverLevelsSpec)) crossoverLevelsCard

/-- THE TIED CARD OF 'wooferlaw04.CrossoverCheapest'. -/
def crossoverCheapestCard : Claim7 := { stood := { row := crossoverCheapestRow, standIns := [], harness := (true, "1b137b5074cd62955587cfa04bcaa679776963b89422bbb2bd8fd54760d6b645"), looks := false }, kinds := [], alts := [], laidByText := true, laidKinds := [.data, .data, .data, .data, .data], laidTests := true, laidLooks := .later }
def CrossoverCheapestCardSaid : Prop := Claim7.holds Tryz.pinned (.plain (OpenSpec.ofChange crossoverCheapestSpec)) crossoverCheapestCard

/-- THE TIED CARD OF 'wooferlaw04.CrossoverSums'. -/
def crossoverSumsCard : Claim7 := { stood := { row := crossoverSumsRow, standIns := [], harness := (true, "1b137b5074cd62955587cfa04bcaa679776963b89422bbb2bd8fd54760d6b645"), looks := false }, kinds := [], alts := [], laidByText := true, laidKinds := [.data, .data, .data, .data, .data], laidTests := true, laidLooks := .later }
def CrossoverSumsCardSaid : Prop := Claim7.holds Tryz.pinned (.plain (OpenSpec.ofChange crossoverSumsSpec)) crossoverSumsCard

/-- THE TIED CARD OF 'wooferlaw04.CrossoverCorners'. -/
def crossoverCornersCard : Claim7 := { stood := { row := crossoverCornersRow, standIns := [], harness := (true, "1b137b5074cd62955587cfa04bcaa679776963b89422bbb2bd8fd54760d6b645"), looks := false }, kinds := [], alts := [], laidByText := true, laidKinds := [.data, .data, .data, .data, .data], laidTests := true, laidLooks := .later }
def CrossoverCornersCardSaid : Prop := Claim7.holds Tryz.pinned (.plain (OpenSpec.ofChange crossoverCornersSpec)) crossoverCornersCard

/-- THE TIED CARD OF 'wooferlaw04.CrossoverBranches'. -/
def crossoverBranchesCard : Claim7 := { stood := { row := crossoverBranchesRow, standIns := [], harness := (true, "1b137b5074cd62955587cfa04bcaa679776963b89422bbb2bd8fd54760d6b645"), looks := false }, kinds := [], alts := [], laidByText := true, laidKinds := [.data, .data, .data, .data, .data], laidTests := true, laidLooks := .later }
def CrossoverBranchesCardSaid : Prop := Claim7.holds Tryz.pinned (.plain (OpenSpec.ofChange crossoverBranchesSpec)) crossoverBranchesCard

/-- THE TIED CARD OF 'wooferlaw04.CrossoverStocks'. -/
def crossoverStocksCard : Claim7 := { stood := { row := crossoverStocksRow, standIns := [], harness := (true, "1b137b5074cd62955587cfa04bcaa679776963b89422bbb2bd8fd54760d6b645"), looks := false }, kinds := [], alts := [], laidByText := true, laidKinds := [.data, .data, .data, .data, .data], laidTests := true, laidLooks := .later }
def CrossoverStocksCardSaid : Prop := Claim7.holds Tryz.pinned (.plain (OpenSpec.ofChange crossoverStocksSpec)) crossoverStocksCard

/-- THE TIED CARD OF 'wooferlaw04.CrossoverWider'. -/
def crossoverWiderCard : Claim7 := { stood := { row := crossoverWiderRow, standIns := [], harness := (true, "1b137b5074cd62955587cfa04bcaa679776963b89422bbb2bd8fd54760d6b645"), looks := false }, kinds := [], alts := [], laidByText := true, laidKinds := [.data, .data, .data, .data, .data], laidTests := true, laidLooks := .later }
def CrossoverWiderCardSaid : Prop := Claim7.holds Tryz.pinned (.plain (OpenSpec.ofChange crossoverWiderSpec)) crossoverWiderCard

/-- THE TIED CARD OF 'wooferlaw04.CrossoverFaults'. -/
def crossoverFaultsCard : Claim7 := { stood := { row := crossoverFaultsRow, standIns := [], harness := (true, "1b137b5074cd62955587cfa04bcaa679776963b89422bbb2bd8fd54760d6b645"), looks := false }, kinds := [], alts := [], laidByText := true, laidKinds := [.data, .data, .data, .data, .data], laidTests := true, laidLooks := .later }
def CrossoverFaultsCardSaid : Prop := Claim7.holds Tryz.pinned (.plain (OpenSpec.ofChange crossoverFaultsSpec)) crossoverFaultsCard

/-- THE TIED CARD OF 'wooferlaw04.CrossoverRefuses'. -/
def crossoverRefusesCard : Claim7 := { stood := { row := crossoverRefusesRow, standIns := [], harness := (true, "1b137b5074cd62955587cfa04bcaa679776963b89422bbb2bd8fd54760d6b645"), looks := false }, kinds := [], alts := [], laidByText := true, laidKinds := [.data, .data, .data, .data, .data], laidTests := true, laidLooks := .later }
def CrossoverRefusesCardSaid : Prop := Claim7.holds Tryz.pinned (.plain (OpenSpec.ofChange crossoverRefusesSpec)) crossoverRefusesCard

/-- THE TIED CARD OF 'wooferlaw04.CrossoverEither'. -/
def crossoverEitherCard : Claim7 := { stood := { row := crossoverEitherRow, standIns := [], harness := (true, "1b137b5074cd62955587cfa04bcaa679776963b89422bbb2bd8fd54760d6b645"), looks := false }, kinds := [], alts := [], laidByText := true, laidKinds := [.data, .data, .data, .data, .data], laidTests := true, laidLooks := .later }
def CrossoverEitherCardSaid : Prop := Claim7.holds Tryz.pinned (.plain (OpenSpec.ofChange crossoverEitherSpec)) crossoverEitherCard

/-- THE TIED CARD OF 'wooferlaw04.CrossoverTexts'. -/
def crossoverTextsCard : Claim7 := { stood := { row := crossoverTextsRow, standIns := [], harness := (true, "1b137b5074cd62955587cfa04bcaa679776963b89422bbb2bd8fd54760d6b645"), looks := false }, kinds := [], alts := [], laidByText := true, laidKinds := [.data, .data, .data, .data, .data, .data, .pinned], laidTests := true, laidLooks := .later }
def CrossoverTextsCardSaid : Prop := Claim7.holds Tryz.pinned (.plain (OpenSpec.ofChange crossoverTextsSpec)) crossoverTextsCard

/-- THE TIED CARD OF 'wooferlaw04.CrossoverBack'. -/
def crossoverBackCard : Claim7 := { stood := { row := crossoverBackRow, standIns := [], harness := (true, "1b137b5074cd62955587cfa04bcaa679776963b89422bbb2bd8fd54760d6b645"), looks := false }, kinds := [], alts := [], laidByText := true, laidKinds := [.data, .data, .data, .data, .data, .data, .pinned], laidTests := true, laidLooks := .later }
def CrossoverBackCardSaid : Prop := Claim7.holds Tryz.pinned (.plain (OpenSpec.ofChange crossoverBackSpec)) crossoverBackCard

/-- THE SECOND FORM's CARD OF 'wooferlaw04.CrossoverParts'. -/
def crossoverPartsUptoCard : Claim7 := { stood := { row := crossoverPartsUptoRow, standIns := [], harness := (true, "1b137b5074cd62955587cfa04bcaa679776963b89422bbb2bd8fd54760d6b645"), looks := false }, kinds := [], alts := [], laidByText := true, laidKinds := [.data, .data, .data, .data, .data], laidTests := true, laidLooks := .later }
def CrossoverPartsUptoCardSaid : Prop := Claim7.holds Tryz.pinned (.plain (OpenSpec.upto crossoverPartsSpec)) crossoverPartsUptoCard

/-- THE SECOND FORM's CARD OF 'wooferlaw04.CrossoverLevels'. -/
def crossoverLevelsUptoCard : Claim7 := { stood := { row := crossoverLevelsUptoRow, standIns := [], harness := (true, "1b137b5074cd62955587cfa04bcaa679776963b89422bbb2bd8fd54760d6b645"), looks := false }, kinds := [], alts := [], laidByText := true, laidKinds := [.data, .data, .data, .data, .data], laidTests := true, laidLooks := .later }
def CrossoverLevelsUptoCardSaid : Prop := Claim7.holds Tryz.pinned (.plain (OpenSpec.upto crossoverLevelsSpec)) crossoverLevelsUptoCard

/-- THE SECOND FORM's CARD OF 'wooferlaw04.CrossoverCheapest'. -/
def crossoverCheapestUptoCard : Claim7 := { stood := { row := crossoverCheapestUptoRow, standIns := [], harness := (true, "1b137b5074cd62955587cfa04bcaa679776963b89422bbb2bd8fd54760d6b645"), looks := false }, kinds := [], alts := [], laidByText := true, laidKinds := [.data, .data, .data, .data, .data], laidTests := true, laidLooks := .later }
def CrossoverCheapestUptoCardSaid : Prop := Claim7.holds Tryz.pinned (.plain (OpenSpec.upto crossoverCheapestSpec)) crossoverCheapestUptoCard

/-- THE SECOND FORM's CARD OF 'wooferlaw04.CrossoverSums'. -/
def crossoverSumsUptoCard : Claim7 := { stood := { row := crossoverSumsUptoRow, standIns := [], harness := (true, "1b137b5074cd62955587cfa04bcaa679776963b89422bbb2bd8fd54760d6b645"), looks := false }, kinds := [], alts := [], laidByText := true, laidKinds := [.data, .data, .data, .data, .data], laidTests := true, laidLooks := .later }
def CrossoverSumsUptoCardSaid : Prop := Claim7.holds Tryz.pinned (.plain (OpenSpec.upto crossoverSumsSpec)) crossoverSumsUptoCard

/-- THE SECOND FORM's CARD OF 'wooferlaw04.CrossoverCorners'. -/
def crossoverCornersUptoCard : Claim7 := { stood := { row := crossoverCornersUptoRow, standIns := [], harness := (true, "1b137b5074cd62955587cfa04bcaa679776963b89422bbb2bd8fd54760d6b645"), looks := false }, kinds := [], alts := [], laidByText := true, laidKinds := [.data, .data, .data, .data, .data], laidTests := true, laidLooks := .later }
def CrossoverCornersUptoCardSaid : Prop := Claim7.holds Tryz.pinned (.plain (OpenSpec.upto crossoverCornersSpec)) crossoverCornersUptoCard

/-- THE SECOND FORM's CARD OF 'wooferlaw04.CrossoverBranches'. -/
def crossoverBranchesUptoCard : Claim7 := { stood := { row := crossoverBranchesUptoRow, standIns := [], harness := (true, "1b137b5074cd62955587cfa04bcaa679776963b89422bbb2bd8fd54760d6b645"), looks := false }, kinds := [], alts := [], laidByText := true, laidKinds := [.data, .data, .data, .data, .data], laidTests := true, laidLooks := .later }
def CrossoverBranchesUptoCardSaid : Prop := Claim7.holds Tryz.pinned (.plain (OpenSpec.upto crossoverBranchesSpec)) crossoverBranchesUptoCard

/-- THE SECOND FORM's CARD OF 'wooferlaw04.CrossoverStocks'. -/
def crossoverStocksUptoCard : Claim7 := { stood := { row := crossoverStocksUptoRow, standIns := [], harness := (true, "1b137b5074cd62955587cfa04bcaa679776963b89422bbb2bd8fd54760d6b645"), looks := false }, kinds := [], alts := [], laidByText := true, laidKinds := [.data, .data, .data, .data, .data], laidTests := true, laidLooks := .later }
def CrossoverStocksUptoCardSaid : Prop := Claim7.holds Tryz.pinned (.plain (OpenSpec.upto crossoverStocksSpec)) crossoverStocksUptoCard

/-- THE SECOND FORM's CARD OF 'wooferlaw04.CrossoverWider'. -/
def crossoverWiderUptoCard : Claim7 := { stood := { row := crossoverWiderUptoRow, standIns := [], harness := (true, "1b137b5074cd62955587cfa04bcaa679776963b89422bbb2bd8fd54760d6b645"), looks := false }, kinds := [], alts := [], laidByText := true, laidKinds := [.data, .data, .data, .data, .data], laidTests := true, laidLooks := .later }
def CrossoverWiderUptoCardSaid : Prop := Claim7.holds Tryz.pinned (.plain (OpenSpec.upto crossoverWiderSpec)) crossoverWiderUptoCard

/-- THE SECOND FORM's CARD OF 'wooferlaw04.CrossoverFaults'. -/
def crossoverFaultsUptoCard : Claim7 := { stood := { row := crossoverFaultsUptoRow, standIns := [], harness := (true, "1b137b5074cd62955587cfa04bcaa679776963b89422bbb2bd8fd54760d6b645"), looks := false }, kinds := [], alts := [], laidByText := true, laidKinds := [.data, .data, .data, .data, .data], laidTests := true, laidLooks := .later }
def CrossoverFaultsUptoCardSaid : Prop := Claim7.holds Tryz.pinned (.plain (OpenSpec.upto crossoverFaultsSpec)) crossoverFaultsUptoCard

/-- THE SECOND FORM's CARD OF 'wooferlaw04.CrossoverRefuses'. -/
def crossoverRefusesUptoCard : Claim7 := { stood := { row := crossoverRefusesUptoRow, standIns := [], harness := (true, "1b137b5074cd62955587cfa04bcaa679776963b89422bbb2bd8fd54760d6b645"), looks := false }, kinds := [], alts := [], laidByText := true, laidKinds := [.data, .data, .data, .data, .data], laidTests := true, laidLooks := .later }
def CrossoverRefusesUptoCardSaid : Prop := Claim7.holds Tryz.pinned (.plain (OpenSpec.upto crossoverRefusesSpec)) crossoverRefusesUptoCard

/-- THE SECOND FORM's CARD OF 'wooferlaw04.CrossoverEither'. -/
def crossoverEitherUptoCard : Claim7 := { stood := { row := crossoverEitherUptoRow, standIns := [], harness := (true, "1b137b5074cd62955587cfa04bcaa679776963b89422bbb2bd8fd54760d6b645"), looks := false }, kinds := [], alts := [], laidByText := true, laidKinds := [.data, .data, .data, .data, .data], laidTests := true, laidLooks := .later }
def CrossoverEitherUptoCardSaid : Prop := Claim7.holds Tryz.pinned (.plain (OpenSpec.upto crossoverEitherSpec)) crossoverEitherUptoCard

/-- THE SECOND FORM's CARD OF 'wooferlaw04.CrossoverTexts'. -/
def crossoverTextsUptoCard : Claim7 := { stood := { row := crossoverTextsUptoRow, standIns := [], harness := (true, "1b137b5074cd62955587cfa04bcaa679776963b89422bbb2bd8fd54760d6b645"), looks := false }, kinds := [], alts := [], laidByText := true, laidKinds := [.data, .data, .data, .data, .data, .data, .pinned], laidTests := true, laidLooks := .later }
def CrossoverTextsUptoCardSaid : Prop := Claim7.holds Tryz.pinned (.plain (OpenSpec.upto crossoverTextsSpec)) crossoverTextsUptoCard

/-- THE SECOND FORM's CARD OF 'wooferlaw04.CrossoverBack'. -/
def crossoverBackUptoCard : Claim7 := { stood := { row := crossoverBackUptoRow, standIns := [], harness := (true, "1b137b5074cd62955587cfa04bcaa679776963b89422bbb2bd8fd54760d6b645"), looks := false }, kinds := [], alts := [], laidByText := true, laidKinds := [.data, .data, .data, .data, .data, .data, .pinned], laidTests := true, laidLooks := .later }
def CrossoverBackUptoCardSaid : Prop := Claim7.holds Tryz.pinned (.plain (OpenSpec.upto crossoverBackSpec)) crossoverBackUptoCard
end Rows
end Go.Proofs.YtnjngdcbkkonnaaGreatDoor
