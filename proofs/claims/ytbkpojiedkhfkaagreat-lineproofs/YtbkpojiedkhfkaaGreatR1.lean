/-
  Contracts as functions, for the printed walks: pairs of units.
-/
import Derived.Test.YtbkpojiedkhfkaaGreatB1
import Derived.Test.YtbkpojiedkhfkaaGreatL5
import Derived.Test.YtbkpojiedkhfkaaGreatL8
import Derived.Test.YtbkpojiedkhfkaaGreatG0v
set_option linter.unusedVariables false
set_option linter.unusedSimpArgs false
set_option maxRecDepth 100000
set_option linter.unusedSimpArgs false
namespace Go.Z
open Go Go.Abs
structure GPair where
  a : Int
  b : Int
def vpair (p : GPair) : AVal := .agg [.int .i64 p.a, .int .i64 p.b]
@[go_sem] theorem flat_vpair {p : GPair} : (vpair p).flat = [.int .i64 p.a, .int .i64 p.b] := rfl
@[go_sem] theorem below_vpair {n : Nat} (p : GPair) : below n (vpair p) = true := rfl
@[go_sem] theorem below_pairs {n : Nat} {l : Option (List GPair)} : below n (sl 2 vpair l) = true := below_sl fun _ => rfl
@[go_sem] theorem loadR_vpair {h0 : Nat} {al : Option (List Nat)} {h : Heap} {p : GPair} : loadR h0 al true 2 h (some (.vptr (vpair p))) = some ⟨.agg [.int .i64 p.a, .int .i64 p.b], false, none, h⟩ := rfl
@[go_sem] theorem indexArr_vpair0 {h : Heap} {k : IntKind} {p : GPair} : indexArrR false 2 1 h (some (.vptr (vpair p))) (some (.int k 0)) = some ⟨.vptr (.int .i64 p.a), false, none, h⟩ := rfl
@[go_sem] theorem indexArr_vpair1 {h : Heap} {k : IntKind} {p : GPair} : indexArrR false 2 1 h (some (.vptr (vpair p))) (some (.int k 1)) = some ⟨.vptr (.int .i64 p.b), false, none, h⟩ := rfl
noncomputable def E22 (o : Option (List GUnit)) : Option Int := exO ((o.getD []).length ≤ 1073741824 ∧ ∀ u ∈ o.getD [], sizeU u) (unitsE (o.getD []))
theorem WE22 {o r} (h : E22 o = some r) : callIso pr (X pr) 22 [sl 2 vunit o] = some (.int .i64 r, false) := by obtain ⟨⟨h1, h2⟩, rfl⟩ := exO_some h; exact I22 _ h1 h2
theorem WE28 {o r} (h : E22 o = some r) : callIso pr (X pr) 28 [sl 2 vunit o] = some (.int .i64 r, false) := by obtain ⟨⟨h1, h2⟩, rfl⟩ := exO_some h; exact I28 _ h1 h2
noncomputable def E18 (o : Option (List GUnit)) : Option (Option (List GUnit)) := exO ((o.getD []).length ≤ 1073741824 ∧ ∀ u ∈ o.getD [], okLen u) (nonNil ((o.getD []).map ownU))
theorem WE18 {o r} (h : E18 o = some r) : callIso pr (X pr) 18 [sl 2 vunit o] = some (sl 2 vunit r, accO (o.getD [])) := by obtain ⟨⟨h1, h2⟩, rfl⟩ := exO_some h; exact I18 _ h1 h2
noncomputable def E15 (o : Option (List GUnit)) (n : Int) : Option Bool := exO (n ≤ 1000) (shortUs (o.getD []) n)
theorem WE15 {o n r} (h : E15 o n = some r) : callIso pr (X pr) 15 [sl 2 vunit o, .int .i64 n] = some (.bool r, false) := by obtain ⟨h1, rfl⟩ := exO_some h; exact I15 _ _ h1
end Go.Z
