/-
  Appends of several elements, and of a list to nothing: further pieces for the printed walks.
-/
import Derived.Test.YtbkpojiedkhfkaaGreatG0m
import Derived.Test.YtbkpojiedkhfkaaGreatG0
import Derived.Test.YtbkpojiedkhfkaaGreatAbsL
set_option linter.unusedVariables false
set_option linter.unusedSimpArgs false
set_option maxRecDepth 100000
set_option linter.unusedSimpArgs false
namespace Go.Z
open Go Go.Abs
end Go.Z
/-
  Maps of numbers to true: what is looked up, what is added.
-/
set_option maxRecDepth 100000
set_option linter.unusedSimpArgs false
namespace Go.Z
open Go Go.Abs
def mapI (l : List Int) : List (AVal × AVal) := l.map fun k => (.int .i64 k, .bool true)
def memI (l : List Int) (k : Int) : Bool := l.contains k
def addO (l : List Int) (k : Int) : Option (List Int) := if memI l k then some l else if l.length ≤ 1073741824 then some (l ++ [k]) else none
theorem findI (k : Int) : ∀ (l : List Int) (i : Nat), (memI l k = false → findEntry .int (.int .i64 k) (mapI l) i = some none) ∧ (memI l k = true → ∃ j, findEntry .int (.int .i64 k) (mapI l) i = some (some (i + j, .bool true)) ∧ l[j]? = some k)
  | [], i => ⟨fun _ => rfl, fun h => by simp [memI] at h⟩
  | x :: l, i => by
    obtain ⟨h1, h2⟩ := findI k l (i + 1)
    have he : findEntry .int (.int .i64 k) (mapI (x :: l)) i = match (some (k == x) : Option Bool) with
      | some true => some (some (i, .bool true))
      | some false => findEntry .int (.int .i64 k) (mapI l) (i + 1)
      | none => none := rfl
    have hm : memI (x :: l) k = (k == x || memI l k) := by unfold memI; rw [List.contains_cons]
    rw [he, hm]
    cases hx : (k == x) with
    | true => exact ⟨fun h => by simp at h, fun _ => ⟨0, rfl, by simp at hx; simp [hx]⟩⟩
    | false =>
      simp only [Bool.false_or]
      refine ⟨h1, fun h => ?_⟩
      obtain ⟨j, g1, g2⟩ := h2 h
      exact ⟨j + 1, by rw [g1, show i + 1 + j = i + (j + 1) by omega], by simpa using g2⟩
theorem lookI {h : Heap} {l : List Int} {k : Int} : lookB h .int (.bool false) (.int .i64 k) (some (.map (mapI l))) = some ⟨.bool (memI l k), false, none, h⟩ := by
  rw [lookB_map]
  cases hm : memI l k with
  | false => rw [(findI k l 0).1 hm]; rfl
  | true =>
    obtain ⟨j, h1, _⟩ := (findI k l 0).2 hm
    rw [h1]; rfl
theorem updEntry_same : ∀ (l : List Int) (i : Nat) (k : Int), l[i]? = some k → updEntry (mapI l) i (.bool true) = mapI l
  | [], i, k, h => by simp at h
  | x :: l, 0, k, h => rfl
  | x :: l, i + 1, k, h => by
    have := updEntry_same l i k (by simpa using h)
    show (AVal.int .i64 x, AVal.bool true) :: updEntry (mapI l) i (.bool true) = _
    rw [this]; rfl
theorem updI_O {h : Heap} {b : Nat} {l v : List Int} {k : Int} (hv : addO l k = some v) : updB h b .int (.int .i64 k) (.bool true) (some (.map (mapI l))) = newR (setBox h b (.map (mapI v))) .undef := by
  rw [updB_map]
  unfold addO at hv
  cases hm : memI l k with
  | false =>
    rw [(findI k l 0).1 hm]
    rw [hm] at hv
    simp only [Bool.false_eq_true, if_false] at hv
    split at hv
    · rename_i hl
      cases hv
      have hb : Nat.ble (mapI l).length 1073741824 = true := Nat.ble_eq_true_of_le (by unfold mapI; rw [List.length_map]; exact hl)
      rw [updE_none, hb]
      show newR (setBox h b (.map (mapI l ++ [(.int .i64 k, .bool true)]))) .undef = _
      rw [show mapI l ++ [(AVal.int .i64 k, AVal.bool true)] = mapI (l ++ [k]) by unfold mapI; rw [List.map_append]; rfl]
    · cases hv
  | true =>
    obtain ⟨j, h1, h2⟩ := (findI k l 0).2 hm
    rw [h1]
    rw [hm] at hv
    simp only [if_true, Option.some.injEq] at hv
    subst hv
    show newR (setBox h b (.map (updEntry (mapI l) (0 + j) (.bool true)))) .undef = _
    rw [Nat.zero_add, updEntry_same l j k h2]
@[go_sem] theorem below_mapI {n : Nat} : ∀ {l : List Int}, belowBox n (.map (mapI l)) = true
  | [] => rfl
  | x :: l => by
    have := below_mapI (n := n) (l := l)
    simp only [belowBox] at this ⊢
    show (below n (.int .i64 x) && below n (.bool true) && belowEntries n (mapI l)) = true
    rw [this]; rfl
theorem mkmapI {p : AProg} {xc : XC} {h0 : Nat} {al : Option (List Nat)} {e : Env} {h : Heap} {r : Nat} : stepOp p xc h0 al e h (.mkmap r) = newR (newBox h0 h r (.map (mapI []))) (.map (h0 + r)) := s_mkmap
end Go.Z
