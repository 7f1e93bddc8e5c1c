/-
  Contracts as functions, for the printed walks: the smallest plan.
-/
import Derived.Test.YtbkpojiedkhfkaaGreatG0
import Derived.Test.YtbkpojiedkhfkaaGreatS1
set_option linter.unusedVariables false
set_option linter.unusedSimpArgs false
set_option maxRecDepth 100000
set_option linter.unusedSimpArgs false
namespace Go.Z
open Go Go.Abs
structure Most where
  x0 : Int
  d0 : Int
  x1 : Int
  d1 : Int
noncomputable def E14 : Option Bool := some true
theorem WE14 {r} (h : E14 = some r) : callIso pr (X pr) 14 [] = some (.bool r, false) := by cases h; exact I14
noncomputable def E23 (n lo hi : Int) : Option Int := some (checkRange n lo hi)
theorem WE23 {n lo hi r} (h : E23 n lo hi = some r) : callIso pr (X pr) 23 [.int .i64 n, .int .i64 lo, .int .i64 hi] = some (.int .i64 r, false) := by cases h; exact I23 ..
noncomputable def E88 (n lo hi : Int) : Option Int := some (checkRange n lo hi)
theorem WE88 {n lo hi r} (h : E88 n lo hi = some r) : callIso pr (X pr) 88 [.int .i64 n, .int .i64 lo, .int .i64 hi] = some (.int .i64 r, false) := by cases h; exact I88 ..
noncomputable def E108 (n : Int) : Option Int := some (checkRange n 1 30)
theorem WE108 {n r} (h : E108 n = some r) : callIso pr (X pr) 108 [.int .i64 n] = some (.int .i64 r, false) := by cases h; exact I108 ..
noncomputable def E46 (L g b : Int) : Option Int := some (defE L g b)
theorem WE46 {L g b r} (h : E46 L g b = some r) : callIso pr (X pr) 46 [.int .i64 L, .int .i64 g, .int .i64 b] = some (.int .i64 r, false) := by cases h; exact I46 ..
theorem WE105 {L g b r} (h : E46 L g b = some r) : callIso pr (X pr) 105 [.int .i64 L, .int .i64 g, .int .i64 b] = some (.int .i64 r, false) := by cases h; exact I105 ..
noncomputable def E52 (x : GRat) : Option Int := some (ratE x.num x.den)
theorem WE52 {x : GRat} {r} (h : E52 x = some r) : callIso pr (X pr) 52 [.agg [.int .i64 x.num, .int .i64 x.den]] = some (.int .i64 r, false) := by cases h; exact I52 ..
theorem WE109 {x : GRat} {r} (h : E52 x = some r) : callIso pr (X pr) 109 [.agg [.int .i64 x.num, .int .i64 x.den]] = some (.int .i64 r, false) := by cases h; exact I109 ..
noncomputable def E110 (x y : GRat) : Option Bool := some (aboveB x.num x.den y.num y.den)
theorem WE110 {x y : GRat} {r} (h : E110 x y = some r) : callIso pr (X pr) 110 [.agg [.int .i64 x.num, .int .i64 x.den], .agg [.int .i64 y.num, .int .i64 y.den]] = some (.bool r, false) := by cases h; exact I110 ..
noncomputable def E94 (o : Option (List Int)) : Option Int := exO ((o.getD []).length ≤ 1000) (firstNZ (o.getD []))
theorem WE94 {o r} (h : E94 o = some r) : callIso pr (X pr) 94 [sl 1 vint o] = some (.int .i64 r, false) := by obtain ⟨h1, rfl⟩ := exO_some h; exact I94 _ (by omega)
noncomputable def E21 (o : Option (List Int)) : Option Int := exO (∃ l, o = some l ∧ l.length ≤ 100) (firstNZ (o.getD []))
theorem WE21 {o r} (h : E21 o = some r) : callIso pr (X pr) 21 [sl 1 vint o] = some (.int .i64 r, false) := by obtain ⟨⟨l, rfl, hl⟩, rfl⟩ := exO_some h; exact I21 _ hl
theorem WE87 {o r} (h : E21 o = some r) : callIso pr (X pr) 87 [sl 1 vint o] = some (.int .i64 r, false) := by obtain ⟨⟨l, rfl, hl⟩, rfl⟩ := exO_some h; exact I87 _ (by omega)
noncomputable def risksV (p : GPlan) (g b : Int) : Most :=
  ⟨ratN (ch p.lot.toNat p.sample.toNat - accN p.lot.toNat p.sample.toNat g.toNat p.accept.toNat) (ch p.lot.toNat p.sample.toNat), ratD (ch p.lot.toNat p.sample.toNat - accN p.lot.toNat p.sample.toNat g.toNat p.accept.toNat) (ch p.lot.toNat p.sample.toNat), ratN (accN p.lot.toNat p.sample.toNat b.toNat p.accept.toNat) (ch p.lot.toNat p.sample.toNat), ratD (accN p.lot.toNat p.sample.toNat b.toNat p.accept.toNat) (ch p.lot.toNat p.sample.toNat)⟩
def risksOk (p : GPlan) (g b : Int) : Prop := PlanN p.lot.toNat p.sample.toNat p.accept.toNat ∧ 0 ≤ p.lot ∧ 0 ≤ p.sample ∧ 0 ≤ p.accept ∧ 0 ≤ g ∧ g ≤ p.lot ∧ 0 ≤ b ∧ b ≤ p.lot
noncomputable def E48 (p : GPlan) (g b : Int) : Option Most := exO (risksOk p g b) (risksV p g b)
theorem WE48 {p : GPlan} {g b r} (h : E48 p g b = some r) : callIso pr (X pr) 48 [.agg [.int .i64 p.lot, .int .i64 p.sample, .int .i64 p.accept], .int .i64 g, .int .i64 b] = some (.agg [.int .i64 r.x0, .int .i64 r.d0, .int .i64 r.x1, .int .i64 r.d1], false) := by
  obtain ⟨⟨hp, h1, h2, h3, h4, h5, h6, h7⟩, rfl⟩ := exO_some h
  have := I48 (g := g.toNat) (b := b.toNat) hp (by omega) (by omega)
  rwa [Int.toNat_of_nonneg h1, Int.toNat_of_nonneg h2, Int.toNat_of_nonneg h3, Int.toNat_of_nonneg h4, Int.toNat_of_nonneg h6] at this
theorem WE106 {p : GPlan} {g b r} (h : E48 p g b = some r) : callIso pr (X pr) 106 [.agg [.int .i64 p.lot, .int .i64 p.sample, .int .i64 p.accept], .int .i64 g, .int .i64 b] = some (.agg [.int .i64 r.x0, .int .i64 r.d0, .int .i64 r.x1, .int .i64 r.d1], false) := by
  obtain ⟨⟨hp, h1, h2, h3, h4, h5, h6, h7⟩, rfl⟩ := exO_some h
  have := I106 (g := g.toNat) (b := b.toNat) hp (by omega) (by omega)
  rwa [Int.toNat_of_nonneg h1, Int.toNat_of_nonneg h2, Int.toNat_of_nonneg h3, Int.toNat_of_nonneg h4, Int.toNat_of_nonneg h6] at this
end Go.Z
