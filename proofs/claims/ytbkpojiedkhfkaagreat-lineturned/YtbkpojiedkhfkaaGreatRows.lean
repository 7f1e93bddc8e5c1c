/-
  No cell of these rows narrows 'for every input' (looked for: loops, veiled, ifaces, maps, wideKeys, modest, calm, conditions, laid).
  DERIVED. THE GIVEN ROWS OF THIS SEAT. 11 by the template 'for every input the law returns true; each argument reads behind the call as it read before'; 0 by the template 'total and deterministic' (their statements: YtbkpojiedkhfkaaGreatTotals.lean).
  GIVEN WITH THE SEED: the statements are not yours to turn. If you find one false, say at which input.
  Laid BY PROGRAM, IN A SANDBOX (cutbox-rows.mjs): the forced cells as the released guide's own fill.sh prints them over the translation 7ff5b60e12850c64… (all of the seat's roots in one cut). By AI agents, Wed Nov 11 2026. No macro, syntax, notation, axiom, sorry.
-/
import Derived.Test.YtbkpojiedkhfkaaGreatChecked
import GoSem.Claim
import GoSem.ClaimJoined
import GoSem.ClaimMapViews
import Derived.JoinedTies
import Derived.KernelRfl
namespace Go.Proofs.YtbkpojiedkhfkaaGreat
/- THE CELL 'sum', in the pinned program and in every row, IS THE sha256 OF THE DUMP (.gsa) THAT YtbkpojiedkhfkaaGreatProg.lean LOADS. Nothing in Lean hashes anything: it is a label: what it is worth is what the hold of that sum in a sandbox is worth. -/
noncomputable def Tryz.pinned : Pinned := { name := "ytbkpojiedkhfkaagreat", sum := "7ff5b60e12850c640fc17c013e05528210f4bdbd17e9ed835705f80708cb94aa", checked := Tryz.checked }
namespace Rows
def none {H : Type} : Left H := { results := [], args := [] }

/-- 'wooferlaw09.LineMasks': WHATEVER THE INPUT: true; the input reads as it did. -/
def lineMasksSpec : ChangeSpec := { name := "lineMasks", fn := fun _ => fun
  | [d1, d2, d3] => { results := [.lit (.bool true)], args := [d1, d2, d3] }
  | _ => none }
def lineMasksRow : OpenClaim := { program := "ytbkpojiedkhfkaagreat", sum := "7ff5b60e12850c640fc17c013e05528210f4bdbd17e9ed835705f80708cb94aa", func := "woofer/wooferlaw09.LineMasks", spec := "lineMasks", unfollowed := true, recurses := true, apart := false }
def LineMasksSaid : Prop := lineMasksRow.holds Tryz.pinned (OpenSpec.ofChange lineMasksSpec)

/-- ITS FALSE NEIGHBOUR: 'it returns false'. Refute it at one input. -/
def lineMasksWrong : ChangeSpec := { name := "lineMasks", fn := fun _ => fun
  | [d1, d2, d3] => { results := [.lit (.bool false)], args := [d1, d2, d3] }
  | _ => none }
def LineMasksWrongFalsely : Prop := lineMasksRow.holds Tryz.pinned (OpenSpec.ofChange lineMasksWrong)

/-- 'wooferlaw09.LineTests': WHATEVER THE INPUT: true; the input reads as it did. -/
def lineTestsSpec : ChangeSpec := { name := "lineTests", fn := fun _ => fun
  | [d1, d2, d3] => { results := [.lit (.bool true)], args := [d1, d2, d3] }
  | _ => none }
def lineTestsRow : OpenClaim := { program := "ytbkpojiedkhfkaagreat", sum := "7ff5b60e12850c640fc17c013e05528210f4bdbd17e9ed835705f80708cb94aa", func := "woofer/wooferlaw09.LineTests", spec := "lineTests", unfollowed := true, recurses := true, apart := false }
def LineTestsSaid : Prop := lineTestsRow.holds Tryz.pinned (OpenSpec.ofChange lineTestsSpec)

/-- ITS FALSE NEIGHBOUR: 'it returns false'. Refute it at one input. -/
def lineTestsWrong : ChangeSpec := { name := "lineTests", fn := fun _ => fun
  | [d1, d2, d3] => { results := [.lit (.bool false)], args := [d1, d2, d3] }
  | _ => none }
def LineTestsWrongFalsely : Prop := lineTestsRow.holds Tryz.pinned (OpenSpec.ofChange lineTestsWrong)

/-- 'wooferlaw09.LinePlans': WHATEVER THE INPUT: true; the input reads as it did. -/
def linePlansSpec : ChangeSpec := { name := "linePlans", fn := fun _ => fun
  | [d1, d2, d3] => { results := [.lit (.bool true)], args := [d1, d2, d3] }
  | _ => none }
def linePlansRow : OpenClaim := { program := "ytbkpojiedkhfkaagreat", sum := "7ff5b60e12850c640fc17c013e05528210f4bdbd17e9ed835705f80708cb94aa", func := "woofer/wooferlaw09.LinePlans", spec := "linePlans", unfollowed := true, recurses := true, apart := false }
def LinePlansSaid : Prop := linePlansRow.holds Tryz.pinned (OpenSpec.ofChange linePlansSpec)

/-- ITS FALSE NEIGHBOUR: 'it returns false'. Refute it at one input. -/
def linePlansWrong : ChangeSpec := { name := "linePlans", fn := fun _ => fun
  | [d1, d2, d3] => { results := [.lit (.bool false)], args := [d1, d2, d3] }
  | _ => none }
def LinePlansWrongFalsely : Prop := linePlansRow.holds Tryz.pinned (OpenSpec.ofChange linePlansWrong)

/-- 'wooferlaw09.LineSmallest': WHATEVER THE INPUT: true; the input reads as it did. -/
def lineSmallestSpec : ChangeSpec := { name := "lineSmallest", fn := fun _ => fun
  | [d1, d2, d3] => { results := [.lit (.bool true)], args := [d1, d2, d3] }
  | _ => none }
def lineSmallestRow : OpenClaim := { program := "ytbkpojiedkhfkaagreat", sum := "7ff5b60e12850c640fc17c013e05528210f4bdbd17e9ed835705f80708cb94aa", func := "woofer/wooferlaw09.LineSmallest", spec := "lineSmallest", unfollowed := true, recurses := true, apart := false }
def LineSmallestSaid : Prop := lineSmallestRow.holds Tryz.pinned (OpenSpec.ofChange lineSmallestSpec)

/-- ITS FALSE NEIGHBOUR: 'it returns false'. Refute it at one input. -/
def lineSmallestWrong : ChangeSpec := { name := "lineSmallest", fn := fun _ => fun
  | [d1, d2, d3] => { results := [.lit (.bool false)], args := [d1, d2, d3] }
  | _ => none }
def LineSmallestWrongFalsely : Prop := lineSmallestRow.holds Tryz.pinned (OpenSpec.ofChange lineSmallestWrong)

/-- 'wooferlaw09.LineGolden': WHATEVER THE INPUT: true; the input reads as it did. -/
def lineGoldenSpec : ChangeSpec := { name := "lineGolden", fn := fun _ => fun
  | [d1, d2, d3] => { results := [.lit (.bool true)], args := [d1, d2, d3] }
  | _ => none }
def lineGoldenRow : OpenClaim := { program := "ytbkpojiedkhfkaagreat", sum := "7ff5b60e12850c640fc17c013e05528210f4bdbd17e9ed835705f80708cb94aa", func := "woofer/wooferlaw09.LineGolden", spec := "lineGolden", unfollowed := true, recurses := true, apart := false }
def LineGoldenSaid : Prop := lineGoldenRow.holds Tryz.pinned (OpenSpec.ofChange lineGoldenSpec)

/-- ITS FALSE NEIGHBOUR: 'it returns false'. Refute it at one input. -/
def lineGoldenWrong : ChangeSpec := { name := "lineGolden", fn := fun _ => fun
  | [d1, d2, d3] => { results := [.lit (.bool false)], args := [d1, d2, d3] }
  | _ => none }
def LineGoldenWrongFalsely : Prop := lineGoldenRow.holds Tryz.pinned (OpenSpec.ofChange lineGoldenWrong)

/-- 'wooferlaw09.LineTurned': WHATEVER THE INPUT: true; the input reads as it did. -/
def lineTurnedSpec : ChangeSpec := { name := "lineTurned", fn := fun _ => fun
  | [d1, d2, d3] => { results := [.lit (.bool true)], args := [d1, d2, d3] }
  | _ => none }
def lineTurnedRow : OpenClaim := { program := "ytbkpojiedkhfkaagreat", sum := "7ff5b60e12850c640fc17c013e05528210f4bdbd17e9ed835705f80708cb94aa", func := "woofer/wooferlaw09.LineTurned", spec := "lineTurned", unfollowed := true, recurses := true, apart := false }
def LineTurnedSaid : Prop := lineTurnedRow.holds Tryz.pinned (OpenSpec.ofChange lineTurnedSpec)

/-- ITS FALSE NEIGHBOUR: 'it returns false'. Refute it at one input. -/
def lineTurnedWrong : ChangeSpec := { name := "lineTurned", fn := fun _ => fun
  | [d1, d2, d3] => { results := [.lit (.bool false)], args := [d1, d2, d3] }
  | _ => none }
def LineTurnedWrongFalsely : Prop := lineTurnedRow.holds Tryz.pinned (OpenSpec.ofChange lineTurnedWrong)

/-- 'wooferlaw09.LineProofs': WHATEVER THE INPUT: true; the input reads as it did. -/
def lineProofsSpec : ChangeSpec := { name := "lineProofs", fn := fun _ => fun
  | [d1, d2, d3] => { results := [.lit (.bool true)], args := [d1, d2, d3] }
  | _ => none }
def lineProofsRow : OpenClaim := { program := "ytbkpojiedkhfkaagreat", sum := "7ff5b60e12850c640fc17c013e05528210f4bdbd17e9ed835705f80708cb94aa", func := "woofer/wooferlaw09.LineProofs", spec := "lineProofs", unfollowed := true, recurses := true, apart := false }
def LineProofsSaid : Prop := lineProofsRow.holds Tryz.pinned (OpenSpec.ofChange lineProofsSpec)

/-- ITS FALSE NEIGHBOUR: 'it returns false'. Refute it at one input. -/
def lineProofsWrong : ChangeSpec := { name := "lineProofs", fn := fun _ => fun
  | [d1, d2, d3] => { results := [.lit (.bool false)], args := [d1, d2, d3] }
  | _ => none }
def LineProofsWrongFalsely : Prop := lineProofsRow.holds Tryz.pinned (OpenSpec.ofChange lineProofsWrong)

/-- 'wooferlaw09.LinePairs': WHATEVER THE INPUT: true; the input reads as it did. -/
def linePairsSpec : ChangeSpec := { name := "linePairs", fn := fun _ => fun
  | [d1, d2] => { results := [.lit (.bool true)], args := [d1, d2] }
  | _ => none }
def linePairsRow : OpenClaim := { program := "ytbkpojiedkhfkaagreat", sum := "7ff5b60e12850c640fc17c013e05528210f4bdbd17e9ed835705f80708cb94aa", func := "woofer/wooferlaw09.LinePairs", spec := "linePairs", unfollowed := true, recurses := true, apart := false }
def LinePairsSaid : Prop := linePairsRow.holds Tryz.pinned (OpenSpec.ofChange linePairsSpec)

/-- ITS FALSE NEIGHBOUR: 'it returns false'. Refute it at one input. -/
def linePairsWrong : ChangeSpec := { name := "linePairs", fn := fun _ => fun
  | [d1, d2] => { results := [.lit (.bool false)], args := [d1, d2] }
  | _ => none }
def LinePairsWrongFalsely : Prop := linePairsRow.holds Tryz.pinned (OpenSpec.ofChange linePairsWrong)

/-- 'wooferlaw09.LineBenches': WHATEVER THE INPUT: true; the input reads as it did. -/
def lineBenchesSpec : ChangeSpec := { name := "lineBenches", fn := fun _ => fun
  | [d1, d2, d3] => { results := [.lit (.bool true)], args := [d1, d2, d3] }
  | _ => none }
def lineBenchesRow : OpenClaim := { program := "ytbkpojiedkhfkaagreat", sum := "7ff5b60e12850c640fc17c013e05528210f4bdbd17e9ed835705f80708cb94aa", func := "woofer/wooferlaw09.LineBenches", spec := "lineBenches", unfollowed := true, recurses := true, apart := false }
def LineBenchesSaid : Prop := lineBenchesRow.holds Tryz.pinned (OpenSpec.ofChange lineBenchesSpec)

/-- ITS FALSE NEIGHBOUR: 'it returns false'. Refute it at one input. -/
def lineBenchesWrong : ChangeSpec := { name := "lineBenches", fn := fun _ => fun
  | [d1, d2, d3] => { results := [.lit (.bool false)], args := [d1, d2, d3] }
  | _ => none }
def LineBenchesWrongFalsely : Prop := lineBenchesRow.holds Tryz.pinned (OpenSpec.ofChange lineBenchesWrong)

/-- 'wooferlaw09.LineLoads': WHATEVER THE INPUT: true; the input reads as it did. -/
def lineLoadsSpec : ChangeSpec := { name := "lineLoads", fn := fun _ => fun
  | [d1, d2, d3] => { results := [.lit (.bool true)], args := [d1, d2, d3] }
  | _ => none }
def lineLoadsRow : OpenClaim := { program := "ytbkpojiedkhfkaagreat", sum := "7ff5b60e12850c640fc17c013e05528210f4bdbd17e9ed835705f80708cb94aa", func := "woofer/wooferlaw09.LineLoads", spec := "lineLoads", unfollowed := true, recurses := true, apart := false }
def LineLoadsSaid : Prop := lineLoadsRow.holds Tryz.pinned (OpenSpec.ofChange lineLoadsSpec)

/-- ITS FALSE NEIGHBOUR: 'it returns false'. Refute it at one input. -/
def lineLoadsWrong : ChangeSpec := { name := "lineLoads", fn := fun _ => fun
  | [d1, d2, d3] => { results := [.lit (.bool false)], args := [d1, d2, d3] }
  | _ => none }
def LineLoadsWrongFalsely : Prop := lineLoadsRow.holds Tryz.pinned (OpenSpec.ofChange lineLoadsWrong)

/-- 'wooferlaw09.LineTutte': WHATEVER THE INPUT: true; the input reads as it did. -/
def lineTutteSpec : ChangeSpec := { name := "lineTutte", fn := fun _ => fun
  | [d1, d2, d3] => { results := [.lit (.bool true)], args := [d1, d2, d3] }
  | _ => none }
def lineTutteRow : OpenClaim := { program := "ytbkpojiedkhfkaagreat", sum := "7ff5b60e12850c640fc17c013e05528210f4bdbd17e9ed835705f80708cb94aa", func := "woofer/wooferlaw09.LineTutte", spec := "lineTutte", unfollowed := true, recurses := true, apart := false }
def LineTutteSaid : Prop := lineTutteRow.holds Tryz.pinned (OpenSpec.ofChange lineTutteSpec)

/-- ITS FALSE NEIGHBOUR: 'it returns false'. Refute it at one input. -/
def lineTutteWrong : ChangeSpec := { name := "lineTutte", fn := fun _ => fun
  | [d1, d2, d3] => { results := [.lit (.bool false)], args := [d1, d2, d3] }
  | _ => none }
def LineTutteWrongFalsely : Prop := lineTutteRow.holds Tryz.pinned (OpenSpec.ofChange lineTutteWrong)

/- THE SECOND FORM. 'bulk': how many values and letters a reading holds, each counted each time it is reached (what is shared counts as often as it is met; a slice's spare places count too). A statement '..UptoSaid' is the law's where the arguments, and the package variables that the reading takes, are together of bulk at most 1048576: NARROWER than '..Said'. Prove '..Said' where nothing that the law and all that it calls make is longer than what came in: it says more and counts as full. Else prove '..UptoSaid'. A law counts once. -/
mutual
def uptoBulk {H : Type} : DataW H → Nat
  | .lit (.string bytes) => bytes.length + 1
  | .lit _ => 1
  | .nil => 1
  | .ptr d => uptoBulk d + 1
  | .slice elems spare => uptoBulkAll elems + uptoBulkAll spare + 1
  | .agg parts => uptoBulkAll parts + 1
  | .iface _ d => uptoBulk d + 1
  | .map entries => uptoBulkEntries entries + 1
  | .held _ => 1
def uptoBulkAll {H : Type} : List (DataW H) → Nat
  | [] => 0
  | d :: r => uptoBulk d + uptoBulkAll r
def uptoBulkEntries {H : Type} : List (Lit × DataW H) → Nat
  | [] => 0
  | x :: r => uptoBulkEntry x + uptoBulkEntries r
def uptoBulkEntry {H : Type} : Lit × DataW H → Nat
  | (.string bytes, d) => bytes.length + uptoBulk d + 1
  | (_, d) => uptoBulk d + 1
 end
def uptoSmall : (H : Type) → List (DataW H) → Bool := fun _ ds => decide (uptoBulkAll ds ≤ 1048576)
def OpenSpec.upto (s : _root_.Go.ChangeSpec) : _root_.Go.OpenSpec := { _root_.Go.OpenSpec.ofChange s with cond := some uptoSmall }

/-- 'wooferlaw09.LineMasks', WHERE WHAT IT READS IS OF BULK AT MOST 1048576: true; the input reads as it did. -/
def lineMasksUptoRow : OpenClaim := { program := "ytbkpojiedkhfkaagreat", sum := "7ff5b60e12850c640fc17c013e05528210f4bdbd17e9ed835705f80708cb94aa", func := "woofer/wooferlaw09.LineMasks", spec := "lineMasks", unfollowed := true, recurses := true, apart := false, narrowed := true }
def LineMasksUptoSaid : Prop := lineMasksUptoRow.holds Tryz.pinned (OpenSpec.upto lineMasksSpec)

/-- 'wooferlaw09.LineTests', WHERE WHAT IT READS IS OF BULK AT MOST 1048576: true; the input reads as it did. -/
def lineTestsUptoRow : OpenClaim := { program := "ytbkpojiedkhfkaagreat", sum := "7ff5b60e12850c640fc17c013e05528210f4bdbd17e9ed835705f80708cb94aa", func := "woofer/wooferlaw09.LineTests", spec := "lineTests", unfollowed := true, recurses := true, apart := false, narrowed := true }
def LineTestsUptoSaid : Prop := lineTestsUptoRow.holds Tryz.pinned (OpenSpec.upto lineTestsSpec)

/-- 'wooferlaw09.LinePlans', WHERE WHAT IT READS IS OF BULK AT MOST 1048576: true; the input reads as it did. -/
def linePlansUptoRow : OpenClaim := { program := "ytbkpojiedkhfkaagreat", sum := "7ff5b60e12850c640fc17c013e05528210f4bdbd17e9ed835705f80708cb94aa", func := "woofer/wooferlaw09.LinePlans", spec := "linePlans", unfollowed := true, recurses := true, apart := false, narrowed := true }
def LinePlansUptoSaid : Prop := linePlansUptoRow.holds Tryz.pinned (OpenSpec.upto linePlansSpec)

/-- 'wooferlaw09.LineSmallest', WHERE WHAT IT READS IS OF BULK AT MOST 1048576: true; the input reads as it did. -/
def lineSmallestUptoRow : OpenClaim := { program := "ytbkpojiedkhfkaagreat", sum := "7ff5b60e12850c640fc17c013e05528210f4bdbd17e9ed835705f80708cb94aa", func := "woofer/wooferlaw09.LineSmallest", spec := "lineSmallest", unfollowed := true, recurses := true, apart := false, narrowed := true }
def LineSmallestUptoSaid : Prop := lineSmallestUptoRow.holds Tryz.pinned (OpenSpec.upto lineSmallestSpec)

/-- 'wooferlaw09.LineGolden', WHERE WHAT IT READS IS OF BULK AT MOST 1048576: true; the input reads as it did. -/
def lineGoldenUptoRow : OpenClaim := { program := "ytbkpojiedkhfkaagreat", sum := "7ff5b60e12850c640fc17c013e05528210f4bdbd17e9ed835705f80708cb94aa", func := "woofer/wooferlaw09.LineGolden", spec := "lineGolden", unfollowed := true, recurses := true, apart := false, narrowed := true }
def LineGoldenUptoSaid : Prop := lineGoldenUptoRow.holds Tryz.pinned (OpenSpec.upto lineGoldenSpec)

/-- 'wooferlaw09.LineTurned', WHERE WHAT IT READS IS OF BULK AT MOST 1048576: true; the input reads as it did. -/
def lineTurnedUptoRow : OpenClaim := { program := "ytbkpojiedkhfkaagreat", sum := "7ff5b60e12850c640fc17c013e05528210f4bdbd17e9ed835705f80708cb94aa", func := "woofer/wooferlaw09.LineTurned", spec := "lineTurned", unfollowed := true, recurses := true, apart := false, narrowed := true }
def LineTurnedUptoSaid : Prop := lineTurnedUptoRow.holds Tryz.pinned (OpenSpec.upto lineTurnedSpec)

/-- 'wooferlaw09.LineProofs', WHERE WHAT IT READS IS OF BULK AT MOST 1048576: true; the input reads as it did. -/
def lineProofsUptoRow : OpenClaim := { program := "ytbkpojiedkhfkaagreat", sum := "7ff5b60e12850c640fc17c013e05528210f4bdbd17e9ed835705f80708cb94aa", func := "woofer/wooferlaw09.LineProofs", spec := "lineProofs", unfollowed := true, recurses := true, apart := false, narrowed := true }
def LineProofsUptoSaid : Prop := lineProofsUptoRow.holds Tryz.pinned (OpenSpec.upto lineProofsSpec)

/-- 'wooferlaw09.LinePairs', WHERE WHAT IT READS IS OF BULK AT MOST 1048576: true; the input reads as it did. -/
def linePairsUptoRow : OpenClaim := { program := "ytbkpojiedkhfkaagreat", sum := "7ff5b60e12850c640fc17c013e05528210f4bdbd17e9ed835705f80708cb94aa", func := "woofer/wooferlaw09.LinePairs", spec := "linePairs", unfollowed := true, recurses := true, apart := false, narrowed := true }
def LinePairsUptoSaid : Prop := linePairsUptoRow.holds Tryz.pinned (OpenSpec.upto linePairsSpec)

/-- 'wooferlaw09.LineBenches', WHERE WHAT IT READS IS OF BULK AT MOST 1048576: true; the input reads as it did. -/
def lineBenchesUptoRow : OpenClaim := { program := "ytbkpojiedkhfkaagreat", sum := "7ff5b60e12850c640fc17c013e05528210f4bdbd17e9ed835705f80708cb94aa", func := "woofer/wooferlaw09.LineBenches", spec := "lineBenches", unfollowed := true, recurses := true, apart := false, narrowed := true }
def LineBenchesUptoSaid : Prop := lineBenchesUptoRow.holds Tryz.pinned (OpenSpec.upto lineBenchesSpec)

/-- 'wooferlaw09.LineLoads', WHERE WHAT IT READS IS OF BULK AT MOST 1048576: true; the input reads as it did. -/
def lineLoadsUptoRow : OpenClaim := { program := "ytbkpojiedkhfkaagreat", sum := "7ff5b60e12850c640fc17c013e05528210f4bdbd17e9ed835705f80708cb94aa", func := "woofer/wooferlaw09.LineLoads", spec := "lineLoads", unfollowed := true, recurses := true, apart := false, narrowed := true }
def LineLoadsUptoSaid : Prop := lineLoadsUptoRow.holds Tryz.pinned (OpenSpec.upto lineLoadsSpec)

/-- 'wooferlaw09.LineTutte', WHERE WHAT IT READS IS OF BULK AT MOST 1048576: true; the input reads as it did. -/
def lineTutteUptoRow : OpenClaim := { program := "ytbkpojiedkhfkaagreat", sum := "7ff5b60e12850c640fc17c013e05528210f4bdbd17e9ed835705f80708cb94aa", func := "woofer/wooferlaw09.LineTutte", spec := "lineTutte", unfollowed := true, recurses := true, apart := false, narrowed := true }
def LineTutteUptoSaid : Prop := lineTutteUptoRow.holds Tryz.pinned (OpenSpec.upto lineTutteSpec)

end Rows
end Go.Proofs.YtbkpojiedkhfkaaGreat
