/-
  Contracts as functions, for the printed walks: masks, tests, grades.
-/
import Derived.Test.YtbkpojiedkhfkaaGreatG0
import Derived.Test.YtbkpojiedkhfkaaGreatL6
import Derived.Test.YtbkpojiedkhfkaaGreatL12
import Derived.Test.YtbkpojiedkhfkaaGreatL16
set_option linter.unusedVariables false
set_option linter.unusedSimpArgs false
set_option maxRecDepth 100000
set_option linter.unusedSimpArgs false
namespace Go.Z
open Go Go.Abs
noncomputable def E14 : Option Bool := some true
theorem WE14 {r} (h : E14 = some r) : callIso pr (X pr) 14 [] = some (.bool r, false) := by cases h; exact I14
def maskOk (m : GMask) : Prop := (m.least.getD []).length ≤ 1073741824 ∧ (m.most.getD []).length ≤ 1073741824
def unitsOk (o : Option (List GUnit)) : Prop := (o.getD []).length ≤ 1073741824 ∧ ∀ u ∈ o.getD [], sizeU u
noncomputable def E22 (o : Option (List GUnit)) : Option Int := exO ((o.getD []).length ≤ 1073741824 ∧ ∀ u ∈ o.getD [], sizeW u) (unitsE (o.getD []))
theorem WE22 {o r} (h : E22 o = some r) : callIso pr (X pr) 22 [sl 2 vunit o] = some (.int .i64 r, false) := by obtain ⟨⟨h1, h2⟩, rfl⟩ := exO_some h; exact I22w _ h1 h2
noncomputable def E18 (o : Option (List GUnit)) : Option (Option (List GUnit)) := exO ((o.getD []).length ≤ 1073741824 ∧ ∀ u ∈ o.getD [], okLen u) (nonNil ((o.getD []).map ownU))
theorem WE18 {o r} (h : E18 o = some r) : callIso pr (X pr) 18 [sl 2 vunit o] = some (sl 2 vunit r, accO (o.getD [])) := by obtain ⟨⟨h1, h2⟩, rfl⟩ := exO_some h; exact I18 _ h1 h2
noncomputable def E17 (o : Option (List GUnit)) (g : Int) : Option (GMask × Int) := exO (unitsOk o) (learnM (o.getD []) g, learnE (o.getD []) g)
theorem WE17 {o g r} (h : E17 o g = some r) : callIso pr (X pr) 17 [sl 2 vunit o, .int .i64 g] = some (.tup [.agg [sl 1 vint r.1.least, sl 1 vint r.1.most], .int .i64 r.2], false) := by obtain ⟨⟨h1, h2⟩, rfl⟩ := exO_some h; exact I17 _ _ h1 h2
noncomputable def E20 (m : GMask) : Option GMask := exO (maskOk m) (ownM m)
theorem WE20 {m r} (h : E20 m = some r) : callIso pr (X pr) 20 [.agg [sl 1 vint m.least, sl 1 vint m.most]] = some (.agg [sl 1 vint r.least, sl 1 vint r.most], false) := by obtain ⟨⟨h1, h2⟩, rfl⟩ := exO_some h; exact I20 _ h1 h2
noncomputable def E25 (m : GMask) : Option Int := exO (maskOk m) (maskE m)
theorem WE25 {m r} (h : E25 m = some r) : callIso pr (X pr) 25 [.agg [sl 1 vint m.least, sl 1 vint m.most]] = some (.int .i64 r, false) := by obtain ⟨⟨h1, h2⟩, rfl⟩ := exO_some h; exact I25 _ h1
noncomputable def E30 (a b : GMask) : Option Bool := exO (maskOk a) (decide (a.least.getD [] = b.least.getD []) && decide (a.most.getD [] = b.most.getD []))
theorem WE30 {a b r} (h : E30 a b = some r) : callIso pr (X pr) 30 [.agg [sl 1 vint a.least, sl 1 vint a.most], .agg [sl 1 vint b.least, sl 1 vint b.most]] = some (.bool r, false) := by obtain ⟨⟨h1, h2⟩, rfl⟩ := exO_some h; exact I30 _ _ h1 h2
noncomputable def E32 (u : GUnit) : Option GUnit := exO (okLen u) (ownU u)
theorem WE32 {u r} (h : E32 u = some r) : callIso pr (X pr) 32 [.agg [.str u.serial, sl 1 vint u.values]] = some (.agg [.str r.serial, sl 1 vint r.values], false) := by obtain ⟨h1, rfl⟩ := exO_some h; exact I32 _ h1
end Go.Z
/-
  Contracts as functions, for the printed walks: narrowed masks, tests, grades, yields.
-/
set_option maxRecDepth 100000
set_option linter.unusedSimpArgs false
namespace Go.Z
open Go Go.Abs
noncomputable def E19 (m : GMask) (g : Int) : Option (GMask × Int) := exO (maskOk m) (narrowedM m g, narrowedE m g)
theorem WE19 {m g r} (h : E19 m g = some r) : callIso pr (X pr) 19 [.agg [sl 1 vint m.least, sl 1 vint m.most], .int .i64 g] = some (.tup [.agg [sl 1 vint r.1.least, sl 1 vint r.1.most], .int .i64 r.2], false) := by obtain ⟨⟨h1, h2⟩, rfl⟩ := exO_some h; exact I19 _ _ h1 h2
noncomputable def E31 (m : GMask) (u : GUnit) : Option (Option (List Int) × Int) := exO (maskOk m ∧ sizeU u) (failuresM m u, testedE m u)
theorem WE31 {m u r} (h : E31 m u = some r) : callIso pr (X pr) 31 [.agg [sl 1 vint m.least, sl 1 vint m.most], .agg [.str u.serial, sl 1 vint u.values]] = some (.tup [sl 1 vint r.1, .int .i64 r.2], false) := by obtain ⟨⟨h1, h2⟩, rfl⟩ := exO_some h; exact I31 _ _ h1.1 h2
noncomputable def E33 (m : GMask) (u : GUnit) (cls : Int) : Option (Int × Int) := exO (maskOk m ∧ sizeU u) (gradedN m u cls, gradedE m u cls)
theorem WE33 {m u cls r} (h : E33 m u cls = some r) : callIso pr (X pr) 33 [.agg [sl 1 vint m.least, sl 1 vint m.most], .agg [.str u.serial, sl 1 vint u.values], .int .i64 cls] = some (.tup [.int .i64 r.1, .int .i64 r.2], false) := by obtain ⟨⟨h1, h2⟩, rfl⟩ := exO_some h; exact I33 _ _ _ h1.1 h2
noncomputable def E34 (m : GMask) (o : Option (List GUnit)) : Option (GRat × Int) := exO (maskOk m ∧ unitsOk o) (⟨(yieldV m (o.getD [])).1, (yieldV m (o.getD [])).2⟩, yieldE m (o.getD []))
theorem WE34 {m o r} (h : E34 m o = some r) : callIso pr (X pr) 34 [.agg [sl 1 vint m.least, sl 1 vint m.most], sl 2 vunit o] = some (.tup [.agg [.int .i64 r.1.num, .int .i64 r.1.den], .int .i64 r.2], false) := by obtain ⟨⟨h1, h2, h3⟩, rfl⟩ := exO_some h; exact I34 _ _ h1.1 h2 h3
end Go.Z
