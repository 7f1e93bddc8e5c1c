/-
  Contracts as functions, for the printed walks: pairs of units.
-/
import Derived.Test.YtbkpojiedkhfkaaGreatB1
import Derived.Test.YtbkpojiedkhfkaaGreatL5
import Derived.Test.YtbkpojiedkhfkaaGreatL8
import Derived.Test.YtbkpojiedkhfkaaGreatG0s
set_option linter.unusedVariables false
set_option linter.unusedSimpArgs false
set_option maxRecDepth 100000
set_option linter.unusedSimpArgs false
namespace Go.Z
open Go Go.Abs
structure GPair where
  a : Int
  b : Int
def vpair (p : GPair) : AVal := .agg [.int .i64 p.a, .int .i64 p.b]
@[go_sem] theorem flat_vpair {p : GPair} : (vpair p).flat = [.int .i64 p.a, .int .i64 p.b] := rfl
@[go_sem] theorem below_vpair {n : Nat} (p : GPair) : below n (vpair p) = true := rfl
@[go_sem] theorem below_pairs {n : Nat} {l : Option (List GPair)} : below n (sl 2 vpair l) = true := below_sl fun _ => rfl
@[go_sem] theorem loadR_vpair {h0 : Nat} {al : Option (List Nat)} {h : Heap} {p : GPair} : loadR h0 al true 2 h (some (.vptr (vpair p))) = some ⟨.agg [.int .i64 p.a, .int .i64 p.b], false, none, h⟩ := rfl
@[go_sem] theorem indexArr_vpair0 {h : Heap} {k : IntKind} {p : GPair} : indexArrR false 2 1 h (some (.vptr (vpair p))) (some (.int k 0)) = some ⟨.vptr (.int .i64 p.a), false, none, h⟩ := rfl
@[go_sem] theorem indexArr_vpair1 {h : Heap} {k : IntKind} {p : GPair} : indexArrR false 2 1 h (some (.vptr (vpair p))) (some (.int k 1)) = some ⟨.vptr (.int .i64 p.b), false, none, h⟩ := rfl
theorem app_vpair_O {b t : Nat} {h : Heap} {bb : Bool} {x : GPair} {o v : Option (List GPair)} (hv : apO o [x] = some v) : appR 2 b h (some t) (some (sl 2 vpair o)) (some (.list bb 2 [.agg [.int .i64 x.a, .int .i64 x.b]])) = ifR (decide (b ≤ 4096)) (some ⟨sl 2 vpair v, true, some t, h⟩) := app_el (x := x) (by omega) rfl hv
noncomputable def E22 (o : Option (List GUnit)) : Option Int := exO ((o.getD []).length ≤ 1073741824 ∧ ∀ u ∈ o.getD [], sizeU u) (unitsE (o.getD []))
theorem WE22 {o r} (h : E22 o = some r) : callIso pr (X pr) 22 [sl 2 vunit o] = some (.int .i64 r, false) := by obtain ⟨⟨h1, h2⟩, rfl⟩ := exO_some h; exact I22 _ h1 h2
theorem WE28 {o r} (h : E22 o = some r) : callIso pr (X pr) 28 [sl 2 vunit o] = some (.int .i64 r, false) := by obtain ⟨⟨h1, h2⟩, rfl⟩ := exO_some h; exact I28 _ h1 h2
noncomputable def E18 (o : Option (List GUnit)) : Option (Option (List GUnit)) := exO ((o.getD []).length ≤ 1073741824 ∧ ∀ u ∈ o.getD [], okLen u) (nonNil ((o.getD []).map ownU))
theorem WE18 {o r} (h : E18 o = some r) : callIso pr (X pr) 18 [sl 2 vunit o] = some (sl 2 vunit r, accO (o.getD [])) := by obtain ⟨⟨h1, h2⟩, rfl⟩ := exO_some h; exact I18 _ h1 h2
noncomputable def E32 (u : GUnit) : Option GUnit := exO (okLen u) (ownU u)
theorem WE32 {u r} (h : E32 u = some r) : callIso pr (X pr) 32 [.agg [.str u.serial, sl 1 vint u.values]] = some (.agg [.str r.serial, sl 1 vint r.values], false) := by obtain ⟨h1, rfl⟩ := exO_some h; exact I32 _ h1
noncomputable def E15 (o : Option (List GUnit)) (n : Int) : Option Bool := exO (n ≤ 1000) (shortUs (o.getD []) n)
theorem WE15 {o n r} (h : E15 o n = some r) : callIso pr (X pr) 15 [sl 2 vunit o, .int .i64 n] = some (.bool r, false) := by obtain ⟨h1, rfl⟩ := exO_some h; exact I15 _ _ h1
noncomputable def E97 (u : GUnit) : Option Int := exO (sizeU u) (unitE u)
theorem WE97 {u r} (h : E97 u = some r) : callIso pr (X pr) 97 [.agg [.str u.serial, sl 1 vint u.values]] = some (.int .i64 r, false) := by obtain ⟨h1, rfl⟩ := exO_some h; exact I97 _ h1
theorem WE95 {u r} (h : E97 u = some r) : callIso pr (X pr) 95 [.agg [.str u.serial, sl 1 vint u.values]] = some (.int .i64 r, false) := by obtain ⟨h1, rfl⟩ := exO_some h; exact I95 _ h1
def someL (o : Option (List Int)) : Prop := (o.getD []).length ≤ 1073741824 ∧ o.getD [] ≠ []
noncomputable def E92 (o : Option (List Int)) : Option Int := exO (someL o) (minL (o.getD []))
theorem WE92 {o r} (h : E92 o = some r) : callIso pr (X pr) 92 [sl 1 vint o] = some (.int .i64 r, false) := by
  obtain ⟨⟨h1, h2⟩, rfl⟩ := exO_some h
  cases o with
  | none => exact absurd rfl h2
  | some l => cases l with
    | nil => exact absurd rfl h2
    | cons x l => exact I92 l x h1
noncomputable def E93 (o : Option (List Int)) : Option Int := exO (someL o) (maxL (o.getD []))
theorem WE93 {o r} (h : E93 o = some r) : callIso pr (X pr) 93 [sl 1 vint o] = some (.int .i64 r, false) := by
  obtain ⟨⟨h1, h2⟩, rfl⟩ := exO_some h
  cases o with
  | none => exact absurd rfl h2
  | some l => cases l with
    | nil => exact absurd rfl h2
    | cons x l => exact I93 l x h1
def E138n (o : Option (List GPair)) : Option Unit := if o.isNone then some () else none
theorem WE138n {o r} (h : E138n o = some r) : callIso pr (X pr) 138 [sl 2 vpair o] = some (.list true 0 [], false) := by
  cases o with
  | some l => cases h
  | none =>
    have : callFn pr (X pr) 138 [sl 2 vpair (none : Option (List GPair))] [] = some (.list true 0 [], false, []) := by
      rw [callFn_at (show pr.fns 138 = some c138 from rfl) (by simp)]
      simp only [go_sem, seval, c138, Option.isNone_none]
    exact callIso_of rfl this rfl rfl
noncomputable def E138 (o : Option (List GPair)) : Option (Option (List GPair)) := exO ((o.getD []).length ≤ 1073741824 ∧ o ≠ none) o
theorem WE138 {o r} (h : E138 o = some r) : callIso pr (X pr) 138 [sl 2 vpair o] = some (sl 2 vpair r, true) := by
  obtain ⟨h1, rfl⟩ := exO_some h
  cases o with
  | none => exact absurd rfl h1.2
  | some l =>
    have hl : l.length ≤ 1073741824 := h1.1
    have : callFn pr (X pr) 138 [sl 2 vpair (some l)] [] = some (.list false 2 (l.map vpair), true, []) := by
      rw [callFn_at (show pr.fns 138 = some c138 from rfl) (by simp)]
      simp only [go_sem, seval, c138, Option.isNone_some, Option.getD_some, List.length_map, Nat.zero_add, hl]
    exact callIso_of rfl this rfl (by simp only [go_sem, seval])
end Go.Z
