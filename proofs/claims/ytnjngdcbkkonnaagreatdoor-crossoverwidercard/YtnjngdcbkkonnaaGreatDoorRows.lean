/-
  NARROWER THAN 'FOR EVERY INPUT', by the rows' own cells (each row's printed sentence says how): CrossoverParts: laid · CrossoverLevels: laid · CrossoverCheapest: laid · CrossoverSums: laid · CrossoverCorners: laid · CrossoverBranches: laid · CrossoverStocks: laid · CrossoverWider: laid · CrossoverFaults: laid · CrossoverRefuses: laid · CrossoverEither: laid · CrossoverTexts: laid · CrossoverBack: laid.
  DERIVED. THE GIVEN ROWS OF THIS SEAT. 13 by the template 'for every input the law returns true; each argument reads behind the call as it read before'; 0 by the template 'total and deterministic' (their statements: YtnjngdcbkkonnaaGreatDoorTotals.lean).
  GIVEN WITH THE SEED: the statements are not yours to turn. If you find one false, say at which input.
  Laid BY PROGRAM, IN A SANDBOX (cutbox-rows.mjs): the forced cells as the released guide's own fill.sh prints them over the translation a619ba04aac590c9… (all of the seat's roots in one cut). By AI agents, Wed Nov 11 2026. No macro, syntax, notation, axiom, sorry.
-/
import Derived.Test.YtnjngdcbkkonnaaGreatDoorChecked
import GoSem.PinnedTables
import GoSem.Claim
import GoSem.ClaimJoined
import GoSem.ClaimMapViews
import Derived.JoinedTies
import Derived.KernelRfl
namespace Go.Proofs.YtnjngdcbkkonnaaGreatDoor
/- THE CELL 'sum', in the pinned program and in every row, IS THE sha256 OF THE DUMP (.gsa) THAT YtnjngdcbkkonnaaGreatDoorProg.lean LOADS. Nothing in Lean hashes anything: it is a label: what it is worth is what the hold of that sum in a sandbox is worth. -/
noncomputable def Tryz.pinned : Pinned := { name := "ytnjngdcbkkonnaagreatdoor", sum := "a619ba04aac590c9a377b4b4c7ea3990c32f8806fa39d5b85187d1f8494f63f6", checked := Tryz.checked }
namespace Rows
def none {H : Type} : Left H := { results := [], args := [] }

/- WHAT THE LISTED PACKAGE-LEVEL VARIABLES READ AS WHEN THE CALL BEGINS. Each datum BY PROGRAM (the guide's laid-datum.mjs) off the statement by which the dump's own 'gosem.cut.vars' lays the variable. In a bare row this is a premise. The card (YtnjngdcbkkonnaaGreatDoorCards.lean) ties it to the program's text. -/
def laid_math_bits_deBruijn32tab {H : Type} : DataW H := .agg [.lit (.int .u8 0), .lit (.int .u8 1), .lit (.int .u8 28), .lit (.int .u8 2), .lit (.int .u8 29), .lit (.int .u8 14), .lit (.int .u8 24), .lit (.int .u8 3), .lit (.int .u8 30), .lit (.int .u8 22), .lit (.int .u8 20), .lit (.int .u8 15), .lit (.int .u8 25), .lit (.int .u8 17), .lit (.int .u8 4), .lit (.int .u8 8), .lit (.int .u8 31), .lit (.int .u8 27), .lit (.int .u8 13), .lit (.int .u8 23), .lit (.int .u8 21), .lit (.int .u8 19), .lit (.int .u8 16), .lit (.int .u8 7), .lit (.int .u8 26), .lit (.int .u8 12), .lit (.int .u8 18), .lit (.int .u8 6), .lit (.int .u8 11), .lit (.int .u8 5), .lit (.int .u8 10), .lit (.int .u8 9)]
def laid_math_bits_deBruijn64tab {H : Type} : DataW H := .agg [.lit (.int .u8 0), .lit (.int .u8 1), .lit (.int .u8 56), .lit (.int .u8 2), .lit (.int .u8 57), .lit (.int .u8 49), .lit (.int .u8 28), .lit (.int .u8 3), .lit (.int .u8 61), .lit (.int .u8 58), .lit (.int .u8 42), .lit (.int .u8 50), .lit (.int .u8 38), .lit (.int .u8 29), .lit (.int .u8 17), .lit (.int .u8 4), .lit (.int .u8 62), .lit (.int .u8 47), .lit (.int .u8 59), .lit (.int .u8 36), .lit (.int .u8 45), .lit (.int .u8 43), .lit (.int .u8 51), .lit (.int .u8 22), .lit (.int .u8 53), .lit (.int .u8 39), .lit (.int .u8 33), .lit (.int .u8 30), .lit (.int .u8 24), .lit (.int .u8 18), .lit (.int .u8 12), .lit (.int .u8 5), .lit (.int .u8 63), .lit (.int .u8 55), .lit (.int .u8 48), .lit (.int .u8 27), .lit (.int .u8 60), .lit (.int .u8 41), .lit (.int .u8 37), .lit (.int .u8 16), .lit (.int .u8 46), .lit (.int .u8 35), .lit (.int .u8 44), .lit (.int .u8 21), .lit (.int .u8 52), .lit (.int .u8 32), .lit (.int .u8 23), .lit (.int .u8 11), .lit (.int .u8 54), .lit (.int .u8 26), .lit (.int .u8 40), .lit (.int .u8 15), .lit (.int .u8 34), .lit (.int .u8 20), .lit (.int .u8 31), .lit (.int .u8 10), .lit (.int .u8 25), .lit (.int .u8 14), .lit (.int .u8 19), .lit (.int .u8 9), .lit (.int .u8 13), .lit (.int .u8 8), .lit (.int .u8 7), .lit (.int .u8 6)]
def laid_internal_strconv_uint64pow10 {H : Type} : DataW H := .agg [.lit (.int .u64 1), .lit (.int .u64 10), .lit (.int .u64 100), .lit (.int .u64 1000), .lit (.int .u64 10000), .lit (.int .u64 100000), .lit (.int .u64 1000000), .lit (.int .u64 10000000), .lit (.int .u64 100000000), .lit (.int .u64 1000000000), .lit (.int .u64 10000000000), .lit (.int .u64 100000000000), .lit (.int .u64 1000000000000), .lit (.int .u64 10000000000000), .lit (.int .u64 100000000000000), .lit (.int .u64 1000000000000000), .lit (.int .u64 10000000000000000), .lit (.int .u64 100000000000000000), .lit (.int .u64 1000000000000000000), .lit (.int .u64 10000000000000000000)]
def laid_woofer_network_none {H : Type} : DataW H := .agg [.lit (.int .i64 0), .lit (.int .i64 0)]
def laid_woofer_network_one {H : Type} : DataW H := .agg [.lit (.int .i64 1), .lit (.int .i64 0)]
def laid_unicode_utf8_acceptRanges {H : Type} : DataW H := .agg [.agg [.lit (.int .u8 128), .lit (.int .u8 191)], .agg [.lit (.int .u8 160), .lit (.int .u8 191)], .agg [.lit (.int .u8 128), .lit (.int .u8 159)], .agg [.lit (.int .u8 144), .lit (.int .u8 191)], .agg [.lit (.int .u8 128), .lit (.int .u8 143)], .agg [.lit (.int .u8 0), .lit (.int .u8 0)], .agg [.lit (.int .u8 0), .lit (.int .u8 0)], .agg [.lit (.int .u8 0), .lit (.int .u8 0)], .agg [.lit (.int .u8 0), .lit (.int .u8 0)], .agg [.lit (.int .u8 0), .lit (.int .u8 0)], .agg [.lit (.int .u8 0), .lit (.int .u8 0)], .agg [.lit (.int .u8 0), .lit (.int .u8 0)], .agg [.lit (.int .u8 0), .lit (.int .u8 0)], .agg [.lit (.int .u8 0), .lit (.int .u8 0)], .agg [.lit (.int .u8 0), .lit (.int .u8 0)], .agg [.lit (.int .u8 0), .lit (.int .u8 0)]]
/-- One of Go's own tables, pinned by name: the form's constant. -/
def laid_unicode_utf8_first : DataW Unit := Go.Pinned.utf8First

/-- 'wooferlaw04.CrossoverParts': WHATEVER THE INPUT: true; the input reads as it did. -/
def crossoverPartsSpec : ChangeSpec := { name := "crossoverParts", fn := fun _ => fun
  | [d1, d2] => { results := [.lit (.bool true)], args := [d1, d2] }
  | _ => none }
def crossoverPartsRow : OpenClaim := { program := "ytnjngdcbkkonnaagreatdoor", sum := "a619ba04aac590c9a377b4b4c7ea3990c32f8806fa39d5b85187d1f8494f63f6", func := "woofer/wooferlaw04.CrossoverParts", spec := "crossoverParts", inPlace := ["internal/abi.NoEscape", "internal/bytealg.MakeNoZero"], unfollowed := true, recurses := true, named := ["woofer/network.one", "woofer/network.none", "internal/strconv.uint64pow10", "math/bits.deBruijn32tab", "math/bits.deBruijn64tab"], apart := false, laid := [("math/bits.deBruijn32tab", laid_math_bits_deBruijn32tab), ("math/bits.deBruijn64tab", laid_math_bits_deBruijn64tab), ("internal/strconv.uint64pow10", laid_internal_strconv_uint64pow10), ("woofer/network.none", laid_woofer_network_none), ("woofer/network.one", laid_woofer_network_one)] }
def CrossoverPartsSaid : Prop := crossoverPartsRow.holds Tryz.pinned (OpenSpec.ofChange crossoverPartsSpec)

/-- ITS FALSE NEIGHBOUR: 'it returns false'. Refute it at one input. -/
def crossoverPartsWrong : ChangeSpec := { name := "crossoverParts", fn := fun _ => fun
  | [d1, d2] => { results := [.lit (.bool false)], args := [d1, d2] }
  | _ => none }
def CrossoverPartsWrongFalsely : Prop := crossoverPartsRow.holds Tryz.pinned (OpenSpec.ofChange crossoverPartsWrong)

/-- 'wooferlaw04.CrossoverLevels': WHATEVER THE INPUT: true; the input reads as it did. -/
def crossoverLevelsSpec : ChangeSpec := { name := "crossoverLevels", fn := fun _ => fun
  | [d1, d2] => { results := [.lit (.bool true)], args := [d1, d2] }
  | _ => none }
def crossoverLevelsRow : OpenClaim := { program := "ytnjngdcbkkonnaagreatdoor", sum := "a619ba04aac590c9a377b4b4c7ea3990c32f8806fa39d5b85187d1f8494f63f6", func := "woofer/wooferlaw04.CrossoverLevels", spec := "crossoverLevels", inPlace := ["internal/abi.NoEscape", "internal/bytealg.MakeNoZero"], unfollowed := true, recurses := true, named := ["woofer/network.one", "woofer/network.none", "internal/strconv.uint64pow10", "math/bits.deBruijn32tab", "math/bits.deBruijn64tab"], apart := false, laid := [("math/bits.deBruijn32tab", laid_math_bits_deBruijn32tab), ("math/bits.deBruijn64tab", laid_math_bits_deBruijn64tab), ("internal/strconv.uint64pow10", laid_internal_strconv_uint64pow10), ("woofer/network.none", laid_woofer_network_none), ("woofer/network.one", laid_woofer_network_one)] }
def CrossoverLevelsSaid : Prop := crossoverLevelsRow.holds Tryz.pinned (OpenSpec.ofChange crossoverLevelsSpec)

/-- ITS FALSE NEIGHBOUR: 'it returns false'. Refute it at one input. -/
def crossoverLevelsWrong : ChangeSpec := { name := "crossoverLevels", fn := fun _ => fun
  | [d1, d2] => { results := [.lit (.bool false)], args := [d1, d2] }
  | _ => none }
def CrossoverLevelsWrongFalsely : Prop := crossoverLevelsRow.holds Tryz.pinned (OpenSpec.ofChange crossoverLevelsWrong)

/-- 'wooferlaw04.CrossoverCheapest': WHATEVER THE INPUT: true; the input reads as it did. -/
def crossoverCheapestSpec : ChangeSpec := { name := "crossoverCheapest", fn := fun _ => fun
  | [d1, d2, d3] => { results := [.lit (.bool true)], args := [d1, d2, d3] }
  | _ => none }
def crossoverCheapestRow : OpenClaim := { program := "ytnjngdcbkkonnaagreatdoor", sum := "a619ba04aac590c9a377b4b4c7ea3990c32f8806fa39d5b85187d1f8494f63f6", func := "woofer/wooferlaw04.CrossoverCheapest", spec := "crossoverCheapest", inPlace := ["internal/abi.NoEscape", "internal/bytealg.MakeNoZero"], unfollowed := true, recurses := true, named := ["woofer/network.one", "woofer/network.none", "internal/strconv.uint64pow10", "math/bits.deBruijn32tab", "math/bits.deBruijn64tab"], apart := false, laid := [("math/bits.deBruijn32tab", laid_math_bits_deBruijn32tab), ("math/bits.deBruijn64tab", laid_math_bits_deBruijn64tab), ("internal/strconv.uint64pow10", laid_internal_strconv_uint64pow10), ("woofer/network.none", laid_woofer_network_none), ("woofer/network.one", laid_woofer_network_one)] }
def CrossoverCheapestSaid : Prop := crossoverCheapestRow.holds Tryz.pinned (OpenSpec.ofChange crossoverCheapestSpec)

/-- ITS FALSE NEIGHBOUR: 'it returns false'. Refute it at one input. -/
def crossoverCheapestWrong : ChangeSpec := { name := "crossoverCheapest", fn := fun _ => fun
  | [d1, d2, d3] => { results := [.lit (.bool false)], args := [d1, d2, d3] }
  | _ => none }
def CrossoverCheapestWrongFalsely : Prop := crossoverCheapestRow.holds Tryz.pinned (OpenSpec.ofChange crossoverCheapestWrong)

/-- 'wooferlaw04.CrossoverSums': WHATEVER THE INPUT: true; the input reads as it did. -/
def crossoverSumsSpec : ChangeSpec := { name := "crossoverSums", fn := fun _ => fun
  | [d1, d2] => { results := [.lit (.bool true)], args := [d1, d2] }
  | _ => none }
def crossoverSumsRow : OpenClaim := { program := "ytnjngdcbkkonnaagreatdoor", sum := "a619ba04aac590c9a377b4b4c7ea3990c32f8806fa39d5b85187d1f8494f63f6", func := "woofer/wooferlaw04.CrossoverSums", spec := "crossoverSums", inPlace := ["internal/abi.NoEscape", "internal/bytealg.MakeNoZero"], unfollowed := true, recurses := true, named := ["woofer/network.one", "woofer/network.none", "internal/strconv.uint64pow10", "math/bits.deBruijn32tab", "math/bits.deBruijn64tab"], apart := false, laid := [("math/bits.deBruijn32tab", laid_math_bits_deBruijn32tab), ("math/bits.deBruijn64tab", laid_math_bits_deBruijn64tab), ("internal/strconv.uint64pow10", laid_internal_strconv_uint64pow10), ("woofer/network.none", laid_woofer_network_none), ("woofer/network.one", laid_woofer_network_one)] }
def CrossoverSumsSaid : Prop := crossoverSumsRow.holds Tryz.pinned (OpenSpec.ofChange crossoverSumsSpec)

/-- ITS FALSE NEIGHBOUR: 'it returns false'. Refute it at one input. -/
def crossoverSumsWrong : ChangeSpec := { name := "crossoverSums", fn := fun _ => fun
  | [d1, d2] => { results := [.lit (.bool false)], args := [d1, d2] }
  | _ => none }
def CrossoverSumsWrongFalsely : Prop := crossoverSumsRow.holds Tryz.pinned (OpenSpec.ofChange crossoverSumsWrong)

/-- 'wooferlaw04.CrossoverCorners': WHATEVER THE INPUT: true; the input reads as it did. -/
def crossoverCornersSpec : ChangeSpec := { name := "crossoverCorners", fn := fun _ => fun
  | [d1, d2] => { results := [.lit (.bool true)], args := [d1, d2] }
  | _ => none }
def crossoverCornersRow : OpenClaim := { program := "ytnjngdcbkkonnaagreatdoor", sum := "a619ba04aac590c9a377b4b4c7ea3990c32f8806fa39d5b85187d1f8494f63f6", func := "woofer/wooferlaw04.CrossoverCorners", spec := "crossoverCorners", inPlace := ["internal/abi.NoEscape", "internal/bytealg.MakeNoZero"], unfollowed := true, recurses := true, named := ["woofer/network.one", "woofer/network.none", "internal/strconv.uint64pow10", "math/bits.deBruijn32tab", "math/bits.deBruijn64tab"], apart := false, laid := [("math/bits.deBruijn32tab", laid_math_bits_deBruijn32tab), ("math/bits.deBruijn64tab", laid_math_bits_deBruijn64tab), ("internal/strconv.uint64pow10", laid_internal_strconv_uint64pow10), ("woofer/network.none", laid_woofer_network_none), ("woofer/network.one", laid_woofer_network_one)] }
def CrossoverCornersSaid : Prop := crossoverCornersRow.holds Tryz.pinned (OpenSpec.ofChange crossoverCornersSpec)

/-- ITS FALSE NEIGHBOUR: 'it returns false'. Refute it at one input. -/
def crossoverCornersWrong : ChangeSpec := { name := "crossoverCorners", fn := fun _ => fun
  | [d1, d2] => { results := [.lit (.bool false)], args := [d1, d2] }
  | _ => none }
def CrossoverCornersWrongFalsely : Prop := crossoverCornersRow.holds Tryz.pinned (OpenSpec.ofChange crossoverCornersWrong)

/-- 'wooferlaw04.CrossoverBranches': WHATEVER THE INPUT: true; the input reads as it did. -/
def crossoverBranchesSpec : ChangeSpec := { name := "crossoverBranches", fn := fun _ => fun
  | [d] => { results := [.lit (.bool true)], args := [d] }
  | _ => none }
def crossoverBranchesRow : OpenClaim := { program := "ytnjngdcbkkonnaagreatdoor", sum := "a619ba04aac590c9a377b4b4c7ea3990c32f8806fa39d5b85187d1f8494f63f6", func := "woofer/wooferlaw04.CrossoverBranches", spec := "crossoverBranches", inPlace := ["internal/abi.NoEscape", "internal/bytealg.MakeNoZero"], unfollowed := true, recurses := true, named := ["woofer/network.one", "woofer/network.none", "internal/strconv.uint64pow10", "math/bits.deBruijn32tab", "math/bits.deBruijn64tab"], apart := false, laid := [("math/bits.deBruijn32tab", laid_math_bits_deBruijn32tab), ("math/bits.deBruijn64tab", laid_math_bits_deBruijn64tab), ("internal/strconv.uint64pow10", laid_internal_strconv_uint64pow10), ("woofer/network.none", laid_woofer_network_none), ("woofer/network.one", laid_woofer_network_one)] }
def CrossoverBranchesSaid : Prop := crossoverBranchesRow.holds Tryz.pinned (OpenSpec.ofChange crossoverBranchesSpec)

/-- ITS FALSE NEIGHBOUR: 'it returns false'. Refute it at one input. -/
def crossoverBranchesWrong : ChangeSpec := { name := "crossoverBranches", fn := fun _ => fun
  | [d] => { results := [.lit (.bool false)], args := [d] }
  | _ => none }
def CrossoverBranchesWrongFalsely : Prop := crossoverBranchesRow.holds Tryz.pinned (OpenSpec.ofChange crossoverBranchesWrong)

/-- 'wooferlaw04.CrossoverStocks': WHATEVER THE INPUT: true; the input reads as it did. -/
def crossoverStocksSpec : ChangeSpec := { name := "crossoverStocks", fn := fun _ => fun
  | [d1, d2] => { results := [.lit (.bool true)], args := [d1, d2] }
  | _ => none }
def crossoverStocksRow : OpenClaim := { program := "ytnjngdcbkkonnaagreatdoor", sum := "a619ba04aac590c9a377b4b4c7ea3990c32f8806fa39d5b85187d1f8494f63f6", func := "woofer/wooferlaw04.CrossoverStocks", spec := "crossoverStocks", inPlace := ["internal/abi.NoEscape", "internal/bytealg.MakeNoZero"], unfollowed := true, recurses := true, named := ["woofer/network.one", "woofer/network.none", "internal/strconv.uint64pow10", "math/bits.deBruijn32tab", "math/bits.deBruijn64tab"], apart := false, laid := [("math/bits.deBruijn32tab", laid_math_bits_deBruijn32tab), ("math/bits.deBruijn64tab", laid_math_bits_deBruijn64tab), ("internal/strconv.uint64pow10", laid_internal_strconv_uint64pow10), ("woofer/network.none", laid_woofer_network_none), ("woofer/network.one", laid_woofer_network_one)] }
def CrossoverStocksSaid : Prop := crossoverStocksRow.holds Tryz.pinned (OpenSpec.ofChange crossoverStocksSpec)

/-- ITS FALSE NEIGHBOUR: 'it returns false'. Refute it at one input. -/
def crossoverStocksWrong : ChangeSpec := { name := "crossoverStocks", fn := fun _ => fun
  | [d1, d2] => { results := [.lit (.bool false)], args := [d1, d2] }
  | _ => none }
def CrossoverStocksWrongFalsely : Prop := crossoverStocksRow.holds Tryz.pinned (OpenSpec.ofChange crossoverStocksWrong)

/-- 'wooferlaw04.CrossoverWider': WHATEVER THE INPUT: true; the input reads as it did. -/
def crossoverWiderSpec : ChangeSpec := { name := "crossoverWider", fn := fun _ => fun
  | [d1, d2, d3] => { results := [.lit (.bool true)], args := [d1, d2, d3] }
  | _ => none }
def crossoverWiderRow : OpenClaim := { program := "ytnjngdcbkkonnaagreatdoor", sum := "a619ba04aac590c9a377b4b4c7ea3990c32f8806fa39d5b85187d1f8494f63f6", func := "woofer/wooferlaw04.CrossoverWider", spec := "crossoverWider", inPlace := ["internal/abi.NoEscape", "internal/bytealg.MakeNoZero"], unfollowed := true, recurses := true, named := ["woofer/network.one", "woofer/network.none", "internal/strconv.uint64pow10", "math/bits.deBruijn32tab", "math/bits.deBruijn64tab"], apart := false, laid := [("math/bits.deBruijn32tab", laid_math_bits_deBruijn32tab), ("math/bits.deBruijn64tab", laid_math_bits_deBruijn64tab), ("internal/strconv.uint64pow10", laid_internal_strconv_uint64pow10), ("woofer/network.none", laid_woofer_network_none), ("woofer/network.one", laid_woofer_network_one)] }
def CrossoverWiderSaid : Prop := crossoverWiderRow.holds Tryz.pinned (OpenSpec.ofChange crossoverWiderSpec)

/-- ITS FALSE NEIGHBOUR: 'it returns false'. Refute it at one input. -/
def crossoverWiderWrong : ChangeSpec := { name := "crossoverWider", fn := fun _ => fun
  | [d1, d2, d3] => { results := [.lit (.bool false)], args := [d1, d2, d3] }
  | _ => none }
def CrossoverWiderWrongFalsely : Prop := crossoverWiderRow.holds Tryz.pinned (OpenSpec.ofChange crossoverWiderWrong)

/-- 'wooferlaw04.CrossoverFaults': WHATEVER THE INPUT: true; the input reads as it did. -/
def crossoverFaultsSpec : ChangeSpec := { name := "crossoverFaults", fn := fun _ => fun
  | [d1, d2] => { results := [.lit (.bool true)], args := [d1, d2] }
  | _ => none }
def crossoverFaultsRow : OpenClaim := { program := "ytnjngdcbkkonnaagreatdoor", sum := "a619ba04aac590c9a377b4b4c7ea3990c32f8806fa39d5b85187d1f8494f63f6", func := "woofer/wooferlaw04.CrossoverFaults", spec := "crossoverFaults", inPlace := ["internal/abi.NoEscape", "internal/bytealg.MakeNoZero"], unfollowed := true, recurses := true, named := ["woofer/network.one", "woofer/network.none", "internal/strconv.uint64pow10", "math/bits.deBruijn32tab", "math/bits.deBruijn64tab"], apart := false, laid := [("math/bits.deBruijn32tab", laid_math_bits_deBruijn32tab), ("math/bits.deBruijn64tab", laid_math_bits_deBruijn64tab), ("internal/strconv.uint64pow10", laid_internal_strconv_uint64pow10), ("woofer/network.none", laid_woofer_network_none), ("woofer/network.one", laid_woofer_network_one)] }
def CrossoverFaultsSaid : Prop := crossoverFaultsRow.holds Tryz.pinned (OpenSpec.ofChange crossoverFaultsSpec)

/-- ITS FALSE NEIGHBOUR: 'it returns false'. Refute it at one input. -/
def crossoverFaultsWrong : ChangeSpec := { name := "crossoverFaults", fn := fun _ => fun
  | [d1, d2] => { results := [.lit (.bool false)], args := [d1, d2] }
  | _ => none }
def CrossoverFaultsWrongFalsely : Prop := crossoverFaultsRow.holds Tryz.pinned (OpenSpec.ofChange crossoverFaultsWrong)

/-- 'wooferlaw04.CrossoverRefuses': WHATEVER THE INPUT: true; the input reads as it did. -/
def crossoverRefusesSpec : ChangeSpec := { name := "crossoverRefuses", fn := fun _ => fun
  | [d1, d2] => { results := [.lit (.bool true)], args := [d1, d2] }
  | _ => none }
def crossoverRefusesRow : OpenClaim := { program := "ytnjngdcbkkonnaagreatdoor", sum := "a619ba04aac590c9a377b4b4c7ea3990c32f8806fa39d5b85187d1f8494f63f6", func := "woofer/wooferlaw04.CrossoverRefuses", spec := "crossoverRefuses", inPlace := ["internal/abi.NoEscape", "internal/bytealg.MakeNoZero"], unfollowed := true, recurses := true, named := ["woofer/network.one", "woofer/network.none", "internal/strconv.uint64pow10", "math/bits.deBruijn32tab", "math/bits.deBruijn64tab"], apart := false, laid := [("math/bits.deBruijn32tab", laid_math_bits_deBruijn32tab), ("math/bits.deBruijn64tab", laid_math_bits_deBruijn64tab), ("internal/strconv.uint64pow10", laid_internal_strconv_uint64pow10), ("woofer/network.none", laid_woofer_network_none), ("woofer/network.one", laid_woofer_network_one)] }
def CrossoverRefusesSaid : Prop := crossoverRefusesRow.holds Tryz.pinned (OpenSpec.ofChange crossoverRefusesSpec)

/-- ITS FALSE NEIGHBOUR: 'it returns false'. Refute it at one input. -/
def crossoverRefusesWrong : ChangeSpec := { name := "crossoverRefuses", fn := fun _ => fun
  | [d1, d2] => { results := [.lit (.bool false)], args := [d1, d2] }
  | _ => none }
def CrossoverRefusesWrongFalsely : Prop := crossoverRefusesRow.holds Tryz.pinned (OpenSpec.ofChange crossoverRefusesWrong)

/-- 'wooferlaw04.CrossoverEither': WHATEVER THE INPUT: true; the input reads as it did. -/
def crossoverEitherSpec : ChangeSpec := { name := "crossoverEither", fn := fun _ => fun
  | [d1, d2, d3] => { results := [.lit (.bool true)], args := [d1, d2, d3] }
  | _ => none }
def crossoverEitherRow : OpenClaim := { program := "ytnjngdcbkkonnaagreatdoor", sum := "a619ba04aac590c9a377b4b4c7ea3990c32f8806fa39d5b85187d1f8494f63f6", func := "woofer/wooferlaw04.CrossoverEither", spec := "crossoverEither", inPlace := ["internal/abi.NoEscape", "internal/bytealg.MakeNoZero"], unfollowed := true, recurses := true, named := ["woofer/network.one", "woofer/network.none", "internal/strconv.uint64pow10", "math/bits.deBruijn32tab", "math/bits.deBruijn64tab"], apart := false, laid := [("math/bits.deBruijn32tab", laid_math_bits_deBruijn32tab), ("math/bits.deBruijn64tab", laid_math_bits_deBruijn64tab), ("internal/strconv.uint64pow10", laid_internal_strconv_uint64pow10), ("woofer/network.none", laid_woofer_network_none), ("woofer/network.one", laid_woofer_network_one)] }
def CrossoverEitherSaid : Prop := crossoverEitherRow.holds Tryz.pinned (OpenSpec.ofChange crossoverEitherSpec)

/-- ITS FALSE NEIGHBOUR: 'it returns false'. Refute it at one input. -/
def crossoverEitherWrong : ChangeSpec := { name := "crossoverEither", fn := fun _ => fun
  | [d1, d2, d3] => { results := [.lit (.bool false)], args := [d1, d2, d3] }
  | _ => none }
def CrossoverEitherWrongFalsely : Prop := crossoverEitherRow.holds Tryz.pinned (OpenSpec.ofChange crossoverEitherWrong)

/-- 'wooferlaw04.CrossoverTexts': WHATEVER THE INPUT: true; the input reads as it did. -/
def crossoverTextsSpec : ChangeSpec := { name := "crossoverTexts", fn := fun _ => fun
  | [d1, d2] => { results := [.lit (.bool true)], args := [d1, d2] }
  | _ => none }
def crossoverTextsRow : OpenClaim := { program := "ytnjngdcbkkonnaagreatdoor", sum := "a619ba04aac590c9a377b4b4c7ea3990c32f8806fa39d5b85187d1f8494f63f6", func := "woofer/wooferlaw04.CrossoverTexts", spec := "crossoverTexts", inPlace := ["internal/abi.NoEscape", "internal/bytealg.MakeNoZero", "internal/bytealg.IndexByteString", "internal/bytealg.CountString", "internal/bytealg.IndexString"], unfollowed := true, recurses := true, named := ["woofer/network.one", "woofer/network.none", "internal/strconv.uint64pow10", "math/bits.deBruijn32tab", "math/bits.deBruijn64tab", "unicode/utf8.first", "unicode/utf8.acceptRanges", "internal/bytealg.MaxLen"], apart := false, laid := [("math/bits.deBruijn32tab", laid_math_bits_deBruijn32tab), ("math/bits.deBruijn64tab", laid_math_bits_deBruijn64tab), ("internal/strconv.uint64pow10", laid_internal_strconv_uint64pow10), ("unicode/utf8.acceptRanges", laid_unicode_utf8_acceptRanges), ("woofer/network.none", laid_woofer_network_none), ("woofer/network.one", laid_woofer_network_one), ("unicode/utf8.first", laid_unicode_utf8_first)] }
def CrossoverTextsSaid : Prop := crossoverTextsRow.holds Tryz.pinned (OpenSpec.ofChange crossoverTextsSpec)

/-- ITS FALSE NEIGHBOUR: 'it returns false'. Refute it at one input. -/
def crossoverTextsWrong : ChangeSpec := { name := "crossoverTexts", fn := fun _ => fun
  | [d1, d2] => { results := [.lit (.bool false)], args := [d1, d2] }
  | _ => none }
def CrossoverTextsWrongFalsely : Prop := crossoverTextsRow.holds Tryz.pinned (OpenSpec.ofChange crossoverTextsWrong)

/-- 'wooferlaw04.CrossoverBack': WHATEVER THE INPUT: true; the input reads as it did. -/
def crossoverBackSpec : ChangeSpec := { name := "crossoverBack", fn := fun _ => fun
  | [d1, d2] => { results := [.lit (.bool true)], args := [d1, d2] }
  | _ => none }
def crossoverBackRow : OpenClaim := { program := "ytnjngdcbkkonnaagreatdoor", sum := "a619ba04aac590c9a377b4b4c7ea3990c32f8806fa39d5b85187d1f8494f63f6", func := "woofer/wooferlaw04.CrossoverBack", spec := "crossoverBack", inPlace := ["internal/abi.NoEscape", "internal/bytealg.MakeNoZero", "internal/bytealg.IndexByteString", "internal/bytealg.CountString", "internal/bytealg.IndexString"], unfollowed := true, recurses := true, named := ["woofer/network.one", "woofer/network.none", "internal/strconv.uint64pow10", "math/bits.deBruijn32tab", "math/bits.deBruijn64tab", "unicode/utf8.first", "unicode/utf8.acceptRanges", "internal/bytealg.MaxLen"], apart := false, laid := [("math/bits.deBruijn32tab", laid_math_bits_deBruijn32tab), ("math/bits.deBruijn64tab", laid_math_bits_deBruijn64tab), ("internal/strconv.uint64pow10", laid_internal_strconv_uint64pow10), ("unicode/utf8.acceptRanges", laid_unicode_utf8_acceptRanges), ("woofer/network.none", laid_woofer_network_none), ("woofer/network.one", laid_woofer_network_one), ("unicode/utf8.first", laid_unicode_utf8_first)] }
def CrossoverBackSaid : Prop := crossoverBackRow.holds Tryz.pinned (OpenSpec.ofChange crossoverBackSpec)

/-- ITS FALSE NEIGHBOUR: 'it returns false'. Refute it at one input. -/
def crossoverBackWrong : ChangeSpec := { name := "crossoverBack", fn := fun _ => fun
  | [d1, d2] => { results := [.lit (.bool false)], args := [d1, d2] }
  | _ => none }
def CrossoverBackWrongFalsely : Prop := crossoverBackRow.holds Tryz.pinned (OpenSpec.ofChange crossoverBackWrong)

/- THE SECOND FORM. 'bulk': how many values and letters a reading holds, each counted each time it is reached (what is shared counts as often as it is met; a slice's spare places count too). A statement '..UptoSaid' is the law's where the arguments, and the package variables that the reading takes, are together of bulk at most 1048576: NARROWER than '..Said'. Prove '..Said' where nothing that the law and all that it calls make is longer than what came in: it says more and counts as full. Else prove '..UptoSaid'. A law counts once. -/
mutual
def uptoBulk {H : Type} : DataW H → Nat
  | .lit (.string bytes) => bytes.length + 1
  | .lit _ => 1
  | .nil => 1
  | .ptr d => uptoBulk d + 1
  | .slice elems spare => uptoBulkAll elems + uptoBulkAll spare + 1
  | .agg parts => uptoBulkAll parts + 1
  | .iface _ d => uptoBulk d + 1
  | .map entries => uptoBulkEntries entries + 1
  | .held _ => 1
def uptoBulkAll {H : Type} : List (DataW H) → Nat
  | [] => 0
  | d :: r => uptoBulk d + uptoBulkAll r
def uptoBulkEntries {H : Type} : List (Lit × DataW H) → Nat
  | [] => 0
  | x :: r => uptoBulkEntry x + uptoBulkEntries r
def uptoBulkEntry {H : Type} : Lit × DataW H → Nat
  | (.string bytes, d) => bytes.length + uptoBulk d + 1
  | (_, d) => uptoBulk d + 1
 end
def uptoSmall : (H : Type) → List (DataW H) → Bool := fun _ ds => decide (uptoBulkAll ds ≤ 1048576)
def OpenSpec.upto (s : _root_.Go.ChangeSpec) : _root_.Go.OpenSpec := { _root_.Go.OpenSpec.ofChange s with cond := some uptoSmall }

/-- 'wooferlaw04.CrossoverParts', WHERE WHAT IT READS IS OF BULK AT MOST 1048576: true; the input reads as it did. -/
def crossoverPartsUptoRow : OpenClaim := { program := "ytnjngdcbkkonnaagreatdoor", sum := "a619ba04aac590c9a377b4b4c7ea3990c32f8806fa39d5b85187d1f8494f63f6", func := "woofer/wooferlaw04.CrossoverParts", spec := "crossoverParts", inPlace := ["internal/abi.NoEscape", "internal/bytealg.MakeNoZero"], unfollowed := true, recurses := true, named := ["woofer/network.one", "woofer/network.none", "internal/strconv.uint64pow10", "math/bits.deBruijn32tab", "math/bits.deBruijn64tab"], apart := false, laid := [("math/bits.deBruijn32tab", laid_math_bits_deBruijn32tab), ("math/bits.deBruijn64tab", laid_math_bits_deBruijn64tab), ("internal/strconv.uint64pow10", laid_internal_strconv_uint64pow10), ("woofer/network.none", laid_woofer_network_none), ("woofer/network.one", laid_woofer_network_one)], narrowed := true }
def CrossoverPartsUptoSaid : Prop := crossoverPartsUptoRow.holds Tryz.pinned (OpenSpec.upto crossoverPartsSpec)

/-- 'wooferlaw04.CrossoverLevels', WHERE WHAT IT READS IS OF BULK AT MOST 1048576: true; the input reads as it did. -/
def crossoverLevelsUptoRow : OpenClaim := { program := "ytnjngdcbkkonnaagreatdoor", sum := "a619ba04aac590c9a377b4b4c7ea3990c32f8806fa39d5b85187d1f8494f63f6", func := "woofer/wooferlaw04.CrossoverLevels", spec := "crossoverLevels", inPlace := ["internal/abi.NoEscape", "internal/bytealg.MakeNoZero"], unfollowed := true, recurses := true, named := ["woofer/network.one", "woofer/network.none", "internal/strconv.uint64pow10", "math/bits.deBruijn32tab", "math/bits.deBruijn64tab"], apart := false, laid := [("math/bits.deBruijn32tab", laid_math_bits_deBruijn32tab), ("math/bits.deBruijn64tab", laid_math_bits_deBruijn64tab), ("internal/strconv.uint64pow10", laid_internal_strconv_uint64pow10), ("woofer/network.none", laid_woofer_network_none), ("woofer/network.one", laid_woofer_network_one)], narrowed := true }
def CrossoverLevelsUptoSaid : Prop := crossoverLevelsUptoRow.holds Tryz.pinned (OpenSpec.upto crossoverLevelsSpec)

/-- 'wooferlaw04.CrossoverCheapest', WHERE WHAT IT READS IS OF BULK AT MOST 1048576: true; the input reads as it did. -/
def crossoverCheapestUptoRow : OpenClaim := { program := "ytnjngdcbkkonnaagreatdoor", sum := "a619ba04aac590c9a377b4b4c7ea3990c32f8806fa39d5b85187d1f8494f63f6", func := "woofer/wooferlaw04.CrossoverCheapest", spec := "crossoverCheapest", inPlace := ["internal/abi.NoEscape", "internal/bytealg.MakeNoZero"], unfollowed := true, recurses := true, named := ["woofer/network.one", "woofer/network.none", "internal/strconv.uint64pow10", "math/bits.deBruijn32tab", "math/bits.deBruijn64tab"], apart := false, laid := [("math/bits.deBruijn32tab", laid_math_bits_deBruijn32tab), ("math/bits.deBruijn64tab", laid_math_bits_deBruijn64tab), ("internal/strconv.uint64pow10", laid_internal_strconv_uint64pow10), ("woofer/network.none", laid_woofer_network_none), ("woofer/network.one", laid_woofer_network_one)], narrowed := true }
def CrossoverCheapestUptoSaid : Prop := crossoverCheapestUptoRow.holds Tryz.pinned (OpenSpec.upto crossoverCheapestSpec)

/-- 'wooferlaw04.CrossoverSums', WHERE WHAT IT READS IS OF BULK AT MOST 1048576: true; the input reads as it did. -/
def crossoverSumsUptoRow : OpenClaim := { program := "ytnjngdcbkkonnaagreatdoor", sum := "a619ba04aac590c9a377b4b4c7ea3990c32f8806fa39d5b85187d1f8494f63f6", func := "woofer/wooferlaw04.CrossoverSums", spec := "crossoverSums", inPlace := ["internal/abi.NoEscape", "internal/bytealg.MakeNoZero"], unfollowed := true, recurses := true, named := ["woofer/network.one", "woofer/network.none", "internal/strconv.uint64pow10", "math/bits.deBruijn32tab", "math/bits.deBruijn64tab"], apart := false, laid := [("math/bits.deBruijn32tab", laid_math_bits_deBruijn32tab), ("math/bits.deBruijn64tab", laid_math_bits_deBruijn64tab), ("internal/strconv.uint64pow10", laid_internal_strconv_uint64pow10), ("woofer/network.none", laid_woofer_network_none), ("woofer/network.one", laid_woofer_network_one)], narrowed := true }
def CrossoverSumsUptoSaid : Prop := crossoverSumsUptoRow.holds Tryz.pinned (OpenSpec.upto crossoverSumsSpec)

/-- 'wooferlaw04.CrossoverCorners', WHERE WHAT IT READS IS OF BULK AT MOST 1048576: true; the input reads as it did. -/
def crossoverCornersUptoRow : OpenClaim := { program := "ytnjngdcbkkonnaagreatdoor", sum := "a619ba04aac590c9a377b4b4c7ea3990c32f8806fa39d5b85187d1f8494f63f6", func := "woofer/wooferlaw04.CrossoverCorners", spec := "crossoverCorners", inPlace := ["internal/abi.NoEscape", "internal/bytealg.MakeNoZero"], unfollowed := true, recurses := true, named := ["woofer/network.one", "woofer/network.none", "internal/strconv.uint64pow10", "math/bits.deBruijn32tab", "math/bits.deBruijn64tab"], apart := false, laid := [("math/bits.deBruijn32tab", laid_math_bits_deBruijn32tab), ("math/bits.deBruijn64tab", laid_math_bits_deBruijn64tab), ("internal/strconv.uint64pow10", laid_internal_strconv_uint64pow10), ("woofer/network.none", laid_woofer_network_none), ("woofer/network.one", laid_woofer_network_one)], narrowed := true }
def CrossoverCornersUptoSaid : Prop := crossoverCornersUptoRow.holds Tryz.pinned (OpenSpec.upto crossoverCornersSpec)

/-- 'wooferlaw04.CrossoverBranches', WHERE WHAT IT READS IS OF BULK AT MOST 1048576: true; the input reads as it did. -/
def crossoverBranchesUptoRow : OpenClaim := { program := "ytnjngdcbkkonnaagreatdoor", sum := "a619ba04aac590c9a377b4b4c7ea3990c32f8806fa39d5b85187d1f8494f63f6", func := "woofer/wooferlaw04.CrossoverBranches", spec := "crossoverBranches", inPlace := ["internal/abi.NoEscape", "internal/bytealg.MakeNoZero"], unfollowed := true, recurses := true, named := ["woofer/network.one", "woofer/network.none", "internal/strconv.uint64pow10", "math/bits.deBruijn32tab", "math/bits.deBruijn64tab"], apart := false, laid := [("math/bits.deBruijn32tab", laid_math_bits_deBruijn32tab), ("math/bits.deBruijn64tab", laid_math_bits_deBruijn64tab), ("internal/strconv.uint64pow10", laid_internal_strconv_uint64pow10), ("woofer/network.none", laid_woofer_network_none), ("woofer/network.one", laid_woofer_network_one)], narrowed := true }
def CrossoverBranchesUptoSaid : Prop := crossoverBranchesUptoRow.holds Tryz.pinned (OpenSpec.upto crossoverBranchesSpec)

/-- 'wooferlaw04.CrossoverStocks', WHERE WHAT IT READS IS OF BULK AT MOST 1048576: true; the input reads as it did. -/
def crossoverStocksUptoRow : OpenClaim := { program := "ytnjngdcbkkonnaagreatdoor", sum := "a619ba04aac590c9a377b4b4c7ea3990c32f8806fa39d5b85187d1f8494f63f6", func := "woofer/wooferlaw04.CrossoverStocks", spec := "crossoverStocks", inPlace := ["internal/abi.NoEscape", "internal/bytealg.MakeNoZero"], unfollowed := true, recurses := true, named := ["woofer/network.one", "woofer/network.none", "internal/strconv.uint64pow10", "math/bits.deBruijn32tab", "math/bits.deBruijn64tab"], apart := false, laid := [("math/bits.deBruijn32tab", laid_math_bits_deBruijn32tab), ("math/bits.deBruijn64tab", laid_math_bits_deBruijn64tab), ("internal/strconv.uint64pow10", laid_internal_strconv_uint64pow10), ("woofer/network.none", laid_woofer_network_none), ("woofer/network.one", laid_woofer_network_one)], narrowed := true }
def CrossoverStocksUptoSaid : Prop := crossoverStocksUptoRow.holds Tryz.pinned (OpenSpec.upto crossoverStocksSpec)

/-- 'wooferlaw04.CrossoverWider', WHERE WHAT IT READS IS OF BULK AT MOST 1048576: true; the input reads as it did. -/
def crossoverWiderUptoRow : OpenClaim := { program := "ytnjngdcbkkonnaagreatdoor", sum := "a619ba04aac590c9a377b4b4c7ea3990c32f8806fa39d5b85187d1f8494f63f6", func := "woofer/wooferlaw04.CrossoverWider", spec := "crossoverWider", inPlace := ["internal/abi.NoEscape", "internal/bytealg.MakeNoZero"], unfollowed := true, recurses := true, named := ["woofer/network.one", "woofer/network.none", "internal/strconv.uint64pow10", "math/bits.deBruijn32tab", "math/bits.deBruijn64tab"], apart := false, laid := [("math/bits.deBruijn32tab", laid_math_bits_deBruijn32tab), ("math/bits.deBruijn64tab", laid_math_bits_deBruijn64tab), ("internal/strconv.uint64pow10", laid_internal_strconv_uint64pow10), ("woofer/network.none", laid_woofer_network_none), ("woofer/network.one", laid_woofer_network_one)], narrowed := true }
def CrossoverWiderUptoSaid : Prop := crossoverWiderUptoRow.holds Tryz.pinned (OpenSpec.upto crossoverWiderSpec)

/-- 'wooferlaw04.CrossoverFaults', WHERE WHAT IT READS IS OF BULK AT MOST 1048576: true; the input reads as it did. -/
def crossoverFaultsUptoRow : OpenClaim := { program := "ytnjngdcbkkonnaagreatdoor", sum := "a619ba04aac590c9a377b4b4c7ea3990c32f8806fa39d5b85187d1f8494f63f6", func := "woofer/wooferlaw04.CrossoverFaults", spec := "crossoverFaults", inPlace := ["internal/abi.NoEscape", "internal/bytealg.MakeNoZero"], unfollowed := true, recurses := true, named := ["woofer/network.one", "woofer/network.none", "internal/strconv.uint64pow10", "math/bits.deBruijn32tab", "math/bits.deBruijn64tab"], apart := false, laid := [("math/bits.deBruijn32tab", laid_math_bits_deBruijn32tab), ("math/bits.deBruijn64tab", laid_math_bits_deBruijn64tab), ("internal/strconv.uint64pow10", laid_internal_strconv_uint64pow10), ("woofer/network.none", laid_woofer_network_none), ("woofer/network.one", laid_woofer_network_one)], narrowed := true }
def CrossoverFaultsUptoSaid : Prop := crossoverFaultsUptoRow.holds Tryz.pinned (OpenSpec.upto crossoverFaultsSpec)

/-- 'wooferlaw04.CrossoverRefuses', WHERE WHAT IT READS IS OF BULK AT MOST 1048576: true; the input reads as it did. -/
def crossoverRefusesUptoRow : OpenClaim := { program := "ytnjngdcbkkonnaagreatdoor", sum := "a619ba04aac590c9a377b4b4c7ea3990c32f8806fa39d5b85187d1f8494f63f6", func := "woofer/wooferlaw04.CrossoverRefuses", spec := "crossoverRefuses", inPlace := ["internal/abi.NoEscape", "internal/bytealg.MakeNoZero"], unfollowed := true, recurses := true, named := ["woofer/network.one", "woofer/network.none", "internal/strconv.uint64pow10", "math/bits.deBruijn32tab", "math/bits.deBruijn64tab"], apart := false, laid := [("math/bits.deBruijn32tab", laid_math_bits_deBruijn32tab), ("math/bits.deBruijn64tab", laid_math_bits_deBruijn64tab), ("internal/strconv.uint64pow10", laid_internal_strconv_uint64pow10), ("woofer/network.none", laid_woofer_network_none), ("woofer/network.one", laid_woofer_network_one)], narrowed := true }
def CrossoverRefusesUptoSaid : Prop := crossoverRefusesUptoRow.holds Tryz.pinned (OpenSpec.upto crossoverRefusesSpec)

/-- 'wooferlaw04.CrossoverEither', WHERE WHAT IT READS IS OF BULK AT MOST 1048576: true; the input reads as it did. -/
def crossoverEitherUptoRow : OpenClaim := { program := "ytnjngdcbkkonnaagreatdoor", sum := "a619ba04aac590c9a377b4b4c7ea3990c32f8806fa39d5b85187d1f8494f63f6", func := "woofer/wooferlaw04.CrossoverEither", spec := "crossoverEither", inPlace := ["internal/abi.NoEscape", "internal/bytealg.MakeNoZero"], unfollowed := true, recurses := true, named := ["woofer/network.one", "woofer/network.none", "internal/strconv.uint64pow10", "math/bits.deBruijn32tab", "math/bits.deBruijn64tab"], apart := false, laid := [("math/bits.deBruijn32tab", laid_math_bits_deBruijn32tab), ("math/bits.deBruijn64tab", laid_math_bits_deBruijn64tab), ("internal/strconv.uint64pow10", laid_internal_strconv_uint64pow10), ("woofer/network.none", laid_woofer_network_none), ("woofer/network.one", laid_woofer_network_one)], narrowed := true }
def CrossoverEitherUptoSaid : Prop := crossoverEitherUptoRow.holds Tryz.pinned (OpenSpec.upto crossoverEitherSpec)

/-- 'wooferlaw04.CrossoverTexts', WHERE WHAT IT READS IS OF BULK AT MOST 1048576: true; the input reads as it did. -/
def crossoverTextsUptoRow : OpenClaim := { program := "ytnjngdcbkkonnaagreatdoor", sum := "a619ba04aac590c9a377b4b4c7ea3990c32f8806fa39d5b85187d1f8494f63f6", func := "woofer/wooferlaw04.CrossoverTexts", spec := "crossoverTexts", inPlace := ["internal/abi.NoEscape", "internal/bytealg.MakeNoZero", "internal/bytealg.IndexByteString", "internal/bytealg.CountString", "internal/bytealg.IndexString"], unfollowed := true, recurses := true, named := ["woofer/network.one", "woofer/network.none", "internal/strconv.uint64pow10", "math/bits.deBruijn32tab", "math/bits.deBruijn64tab", "unicode/utf8.first", "unicode/utf8.acceptRanges", "internal/bytealg.MaxLen"], apart := false, laid := [("math/bits.deBruijn32tab", laid_math_bits_deBruijn32tab), ("math/bits.deBruijn64tab", laid_math_bits_deBruijn64tab), ("internal/strconv.uint64pow10", laid_internal_strconv_uint64pow10), ("unicode/utf8.acceptRanges", laid_unicode_utf8_acceptRanges), ("woofer/network.none", laid_woofer_network_none), ("woofer/network.one", laid_woofer_network_one), ("unicode/utf8.first", laid_unicode_utf8_first)], narrowed := true }
def CrossoverTextsUptoSaid : Prop := crossoverTextsUptoRow.holds Tryz.pinned (OpenSpec.upto crossoverTextsSpec)

/-- 'wooferlaw04.CrossoverBack', WHERE WHAT IT READS IS OF BULK AT MOST 1048576: true; the input reads as it did. -/
def crossoverBackUptoRow : OpenClaim := { program := "ytnjngdcbkkonnaagreatdoor", sum := "a619ba04aac590c9a377b4b4c7ea3990c32f8806fa39d5b85187d1f8494f63f6", func := "woofer/wooferlaw04.CrossoverBack", spec := "crossoverBack", inPlace := ["internal/abi.NoEscape", "internal/bytealg.MakeNoZero", "internal/bytealg.IndexByteString", "internal/bytealg.CountString", "internal/bytealg.IndexString"], unfollowed := true, recurses := true, named := ["woofer/network.one", "woofer/network.none", "internal/strconv.uint64pow10", "math/bits.deBruijn32tab", "math/bits.deBruijn64tab", "unicode/utf8.first", "unicode/utf8.acceptRanges", "internal/bytealg.MaxLen"], apart := false, laid := [("math/bits.deBruijn32tab", laid_math_bits_deBruijn32tab), ("math/bits.deBruijn64tab", laid_math_bits_deBruijn64tab), ("internal/strconv.uint64pow10", laid_internal_strconv_uint64pow10), ("unicode/utf8.acceptRanges", laid_unicode_utf8_acceptRanges), ("woofer/network.none", laid_woofer_network_none), ("woofer/network.one", laid_woofer_network_one), ("unicode/utf8.first", laid_unicode_utf8_first)], narrowed := true }
def CrossoverBackUptoSaid : Prop := crossoverBackUptoRow.holds Tryz.pinned (OpenSpec.upto crossoverBackSpec)

end Rows
end Go.Proofs.YtnjngdcbkkonnaaGreatDoor
