/-
  LinePairs: differences, worst differences, the best of pairings.
-/
import Derived.Test.YtbkpojiedkhfkaaGreatR2
import Derived.Test.YtbkpojiedkhfkaaGreatL14
import Derived.Test.YtbkpojiedkhfkaaGreatB2
set_option linter.unusedVariables false
set_option linter.unusedSimpArgs false
set_option maxRecDepth 100000
set_option linter.unusedSimpArgs false
set_option linter.unusedVariables false
namespace Go.Z
open Go Go.Abs
theorem nonNil_get' {α : Type} (l : List α) : (nonNil l).getD [] = l := by cases l <;> rfl
def stepD (s : Int) (vw : Int × Int) : Int := max (max s (vw.1 - vw.2)) (vw.2 - vw.1)
def diffU (a b : GUnit) : Int := ((a.values.getD []).zip (b.values.getD [])).foldl stepD 0
structure UnitOk (u : GUnit) : Prop where
  len : (u.values.getD []).length ≤ 16
  val : ∀ v ∈ u.values.getD [], -100000 ≤ v ∧ v ≤ 100000
theorem unit_ok {u : GUnit} (h : unitE u = 0) : UnitOk u := by
  refine ⟨?_, unitE_at h⟩
  have := whenE_zero (by decide) (firstNZ_zero h _ (List.mem_cons_of_mem _ (List.mem_cons_of_mem _ (List.mem_cons_self ..))))
  simp only [decide_eq_false_iff_not] at this
  omega
theorem zip_vals {a b : GUnit} (ha : UnitOk a) (hb : UnitOk b) : ∀ vw ∈ (a.values.getD []).zip (b.values.getD []), -100000 ≤ vw.1 ∧ vw.1 ≤ 100000 ∧ -100000 ≤ vw.2 ∧ vw.2 ≤ 100000 := by
  intro vw h
  have h1 := ha.val _ (List.of_mem_zip h).1
  have h2 := hb.val _ (List.of_mem_zip h).2
  omega
theorem f115_eq {a b : GUnit} (ha : UnitOk a) (hb : UnitOk b) (hl : (a.values.getD []).length = (b.values.getD []).length) : f115 a b = some (diffU a b) := by
  have hlen := ha.len
  have hzl : ((a.values.getD []).zip (b.values.getD [])).length = (a.values.getD []).length := by rw [List.length_zip]; omega
  have hz := zip_vals ha hb
  have key := itO_list (δ := Int × Int) (ε := Empty) ((a.values.getD []).zip (b.values.getD [])) (s115_0 a b) (fun i s => (s, (i : Int))) (fun _ s t => .inl (stepD s t)) (fun s => (s, ((a.values.getD []).length : Int))) (fun d => nomatch d) (fun _ s => 0 ≤ s ∧ s ≤ 200000) 0 ?_ ?_ ⟨by omega, by omega⟩
  · have hf : runL (δ := Empty) (fun _ (s : Int) (t : Int × Int) => .inl (stepD s t)) 0 0 ((a.values.getD []).zip (b.values.getD [])) = .inl (diffU a b) := runL_fold stepD _ _ _
    rw [hf, Int.natCast_zero] at key
    unfold f115
    rw [key]; rfl
  · intro s _
    rw [hzl]
    unfold s115_0
    simp
  · intro i s vw hi hlt hs
    obtain ⟨x, y⟩ := vw
    rw [List.getElem?_zip_eq_some] at hi
    obtain ⟨hxi, hyi⟩ := hi
    rw [hzl] at hlt
    have hx := ha.val x (List.mem_of_getElem? hxi)
    have hy := hb.val y (List.mem_of_getElem? hyi)
    have hi1 : ((i : Int) < ((a.values.getD []).length : Int)) := by omega
    have hwi : wrapF .i64 ((i : Int) + 1) = ((i + 1 : Nat) : Int) := wrap_nat (by omega)
    dsimp only
    refine ⟨by unfold stepD; dsimp only; omega, ?_⟩
    unfold s115_0
    simp only [hi1, decide_true, cond_true, idxO_nat, hxi, hyi, obind_at, hwi, wrapF_i64 (show -9223372036854775808 ≤ x - y by omega) (by omega), wrapF_i64 (show -9223372036854775808 ≤ y - x by omega) (by omega)]
    rfl
theorem f68_f115 (a b : GUnit) : f68 a b = f115 a b := rfl
structure UnitsOk (l : List GUnit) : Prop where
  ok : ∀ u ∈ l, UnitOk u
  same : ∀ u ∈ l, ∀ w ∈ l, (u.values.getD []).length = (w.values.getD []).length
theorem firstU_each {n0 : Int} : ∀ {l : List GUnit} {seen : List (List UInt8)}, firstU n0 seen l = 0 → ∀ u ∈ l, unitE u = 0 ∧ lenU u = n0
  | x :: l, seen, h, u, hu => by
    unfold firstU at h
    by_cases hz : stepU n0 seen x = 0
    · rw [if_pos hz] at h
      rcases List.mem_cons.1 hu with rfl | hu
      · refine ⟨firstNZ_zero hz _ (List.mem_cons_self ..), ?_⟩
        have := whenE_zero (by decide) (firstNZ_zero hz _ (List.mem_cons_of_mem _ (List.mem_cons_self ..)))
        simpa using this
      · exact firstU_each h u hu
    · rw [if_neg hz] at h; exact absurd h hz
theorem units_each {l : List GUnit} (h : unitsE l = 0) : ∀ u ∈ l, unitE u = 0 ∧ lenU u = len0 l := by
  unfold unitsE at h
  split at h
  · exact firstU_each h
  · cases h
theorem units_ok {l : List GUnit} (h : unitsE l = 0) : UnitsOk l := by
  have h1 := units_each h
  refine ⟨fun u hu => unit_ok (h1 u hu).1, fun u hu w hw => ?_⟩
  have e1 := (h1 u hu).2
  have e2 := (h1 w hw).2
  unfold lenU at e1 e2
  omega
def dAt (l : List GUnit) (i j : Int) : Int := match l[i.toNat]?, l[j.toNat]? with
  | some u, some w => diffU u w
  | _, _ => 0
theorem d_at {l : List GUnit} (h : UnitsOk l) {i j : Int} (hi : 0 ≤ i) (hin : i < (l.length : Int)) (hj : 0 ≤ j) (hjn : j < (l.length : Int)) : ∃ u w, idxO l i = some u ∧ idxO l j = some w ∧ f115 u w = some (dAt l i j) := by
  have h1 : i.toNat < l.length := by omega
  have h2 : j.toNat < l.length := by omega
  refine ⟨l[i.toNat], l[j.toNat], by unfold idxO; rw [if_pos hi]; exact List.getElem?_eq_getElem h1, by unfold idxO; rw [if_pos hj]; exact List.getElem?_eq_getElem h2, ?_⟩
  rw [f115_eq (h.ok _ (List.getElem_mem h1)) (h.ok _ (List.getElem_mem h2)) (h.same _ (List.getElem_mem h1) _ (List.getElem_mem h2))]
  unfold dAt
  rw [List.getElem?_eq_getElem h1, List.getElem?_eq_getElem h2]
end Go.Z
/-
  LinePairs: the best of all pairings that begin so.
-/
set_option maxRecDepth 100000
set_option linter.unusedSimpArgs false
set_option linter.unusedVariables false
namespace Go.Z
open Go Go.Abs
structure LeftOk (n : Nat) (left : List Int) : Prop where
  nd : left.Nodup
  ins : ∀ x ∈ left, 0 ≤ x ∧ x < (n : Int)
theorem LeftOk.next {n : Nat} {left : List Int} (h : LeftOk n left) (b : Int) : LeftOk n (left.tail.filter fun x => x != b) :=
  ⟨(h.nd.sublist (List.tail_sublist _)).sublist (List.filter_sublist ..), fun x hx => h.ins x (List.mem_of_mem_tail (List.mem_filter.1 hx).1)⟩
theorem LeftOk.tail {n : Nat} {left : List Int} (h : LeftOk n left) : left.tail.Nodup := h.nd.sublist (List.tail_sublist _)
theorem LeftOk.head {n : Nat} {left : List Int} (h : LeftOk n left) (hne : left ≠ []) : 0 ≤ left.headD 0 ∧ left.headD 0 < (n : Int) := by
  cases left with
  | nil => exact absurd rfl hne
  | cons a t => exact h.ins a (List.mem_cons_self ..)
end Go.Z
