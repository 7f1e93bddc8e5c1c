/-
  LinePlans returns true for every input, and each argument reads afterwards as it read before (the statement Rows.LinePlansSaid). No conditions.
-/
import Derived.Test.YtbkpojiedkhfkaaGreatP9
import Derived.Test.YtbkpojiedkhfkaaGreatLG

set_option linter.unusedVariables false
set_option linter.unusedSimpArgs false

set_option maxRecDepth 100000
set_option linter.unusedSimpArgs false
namespace Go.Z
open Go Go.Abs Go.Proofs

theorem agg71 : aggT Tryz.prog 71 = true := by kernel_rfl
theorem agg72 : aggT Tryz.prog 72 = false := by kernel_rfl
theorem agg4 : aggT Tryz.prog 4 = false := by kernel_rfl
theorem cells4 : Tryz.prog.cellsOf 4 = 1 := by kernel_rfl
theorem rdBool {n : Nat} {cs : List AVal} (h : typedC Tryz.prog (n + 1) 4 cs) : ∃ b, cs = [.bool b] := by
  simp only [typedC, Tryz.underlying4] at h
  exact h
theorem rdBools {n : Nat} {cs : List AVal} (h : typedC Tryz.prog (n + 2) 72 cs) : ∃ o : Option (List Bool), cs = [sl 1 vbool o] := by
  rw [typedC] at h
  simp only [Tryz.underlying72] at h
  rcases h with h | ⟨xs, h, _, hx⟩
  · exact ⟨none, h⟩
  · obtain ⟨l, hl⟩ := map_of (f := vbool) (xs := xs) (fun y hy => by
      obtain ⟨h1, h2⟩ := hx y hy
      rw [agg4] at h2
      obtain ⟨m, hm⟩ := rdBool h1
      rw [flat_one h2] at hm
      exact ⟨m, (List.cons.inj hm).1⟩)
    exact ⟨some l, by rw [h, hl, cells4]; rfl⟩
theorem rdPlan {n : Nat} {cs : List AVal} (h : typedC Tryz.prog (n + 2) 71 cs) : ∃ a b c : Int, cs = [.int .i64 a, .int .i64 b, .int .i64 c] := by
  rw [typedC] at h
  simp only [Tryz.underlying71] at h
  obtain ⟨ys, zs, rfl, h1, h2⟩ := h
  obtain ⟨ys', zs', rfl, h3, h4⟩ := h2
  obtain ⟨ys'', zs'', rfl, h5, h6⟩ := h4
  rw [show zs'' = [] from h6]
  obtain ⟨a, rfl⟩ := rdInt h1
  obtain ⟨b, rfl⟩ := rdInt h3
  obtain ⟨c, rfl⟩ := rdInt h5
  exact ⟨a, b, c, rfl⟩

theorem law5 (xs : List AVal) (h : typedAll Tryz.prog 6 Tryz.f5.params.toList xs) : IsoCall Tryz.prog 5 xs (.bool true) false := by
  rw [Tryz.params5] at h
  obtain ⟨y1, ys1, rfl, h1, h⟩ := h
  obtain ⟨y2, ys2, rfl, h2, h⟩ := h
  obtain ⟨y3, ys3, rfl, h3, h⟩ := h
  rw [show ys3 = [] from h]
  obtain ⟨g1, k1⟩ := h1
  obtain ⟨g2, k2⟩ := h2
  obtain ⟨g3, k3⟩ := h3
  rw [agg71] at k1
  rw [agg26] at k2
  rw [agg72] at k3
  obtain ⟨a, b, c, hp⟩ := rdPlan g1
  obtain ⟨n0, n1, hn⟩ := rdPair g2
  obtain ⟨o, ho⟩ := rdBools g3
  rw [flat_one k3] at ho
  obtain rfl : y3 = sl 1 vbool o := (List.cons.inj ho).1
  rw [agg_flat k1, hp, agg_flat k2, hn]
  exact callX_ok okPr (I5 o a b c n0 n1) (by simp only [go_sem, reduceIte, Nat.reduceEqDiff, Nat.reduceAdd, Nat.reduceSub, Nat.reduceLT, Nat.reduceLeDiff, Nat.reduceMul, Int.reduceLT, Int.reduceLE, Int.reduceEq, Int.reduceNe, Int.reduceAdd, Int.reduceSub, Int.reduceNeg, Int.reduceMul])

end Go.Z

namespace Go.Proofs.YtbkpojiedkhfkaaGreat
open Go Go.Abs Go.Z Go.RowKit

theorem plans_lifted (os : Os) (started : os.Started) (H : Type) (enc : TypeId × Value → H) :
    ReturnsInHanded {} Tryz.checked os 5 .any (Rows.linePlansSpec.pre6 enc Tryz.prog Tryz.f5 Rows.linePlansRow.domain false) (Rows.linePlansSpec.post enc Tryz.prog Tryz.f5 false true false false) :=
  law_lifted (C := Tryz.checked) 6 4 z_own started (by kernel_rfl) Tryz.func5
    (ChangeSpec.witness6 (enc := enc) (C := Tryz.checked) false ⟨#[], #[.agg #[.int .i64 0, .int .i64 0, .int .i64 0], .agg #[.int .i64 0, .int .i64 0], .slice none 0 0], []⟩ 8 (by kernel_rfl) (by kernel_rfl) (by kernel_rfl) (by kernel_rfl))
    rfl rfl Tryz.underlying4 z_laid (by kernel_rfl) (by kernel_rfl)
    (fun ds hd => by
      rw [Tryz.params5] at hd
      match ds, hd with
      | [d1, d2, d3], _ => exact ⟨rfl, rfl, rfl⟩)
    law5

theorem linePlans_holds : Rows.LinePlansSaid :=
  OpenClaim.holds_of_wide 5 Tryz.f5 rfl rfl rfl rfl rfl rfl rfl ⟨rfl, rfl, rfl, rfl, rfl⟩ rfl rfl rfl rfl rfl (by kernel_rfl) Tryz.func5 (by kernel_rfl)
    (of_decide_eq_true (by kernel_rfl)) (by unfold Func.isWrapper; first | (rw [if_pos (by decide +kernel)]; kernel_rfl) | (rw [if_neg (by decide +kernel)]; exact ⟨rfl, rfl⟩))
    (fun os started H enc _ => plans_lifted os started H enc)

end Go.Proofs.YtbkpojiedkhfkaaGreat
