/-
  LineTests returns true for every input, and each argument reads afterwards as it read before (the statement Rows.LineTestsSaid). No conditions.
-/
import Derived.Test.YtbkpojiedkhfkaaGreatL17
import Derived.Test.YtbkpojiedkhfkaaGreatLG

set_option linter.unusedVariables false
set_option linter.unusedSimpArgs false

set_option maxRecDepth 100000
set_option linter.unusedSimpArgs false
namespace Go.Z
open Go Go.Abs Go.Proofs

theorem law4 (xs : List AVal) (h : typedAll Tryz.prog 6 Tryz.f4.params.toList xs) : IsoCall Tryz.prog 4 xs (.bool true) false := by
  rw [Tryz.params4] at h
  obtain ⟨y1, ys1, rfl, h1, h⟩ := h
  obtain ⟨y2, ys2, rfl, h2, h⟩ := h
  obtain ⟨y3, ys3, rfl, h3, h⟩ := h
  rw [show ys3 = [] from h]
  obtain ⟨g1, k1⟩ := h1
  obtain ⟨g2, k2⟩ := h2
  obtain ⟨g3, k3⟩ := h3
  rw [agg25] at k1
  rw [agg22] at k2
  rw [agg3] at k3
  obtain ⟨m, hm⟩ := rdMask g1
  obtain ⟨o, ho⟩ := rdUnits g2
  obtain ⟨a, hp⟩ := rdInt g3
  rw [flat_one k2] at ho
  rw [flat_one k3] at hp
  obtain rfl : y2 = sl 2 vunit o := (List.cons.inj ho).1
  obtain rfl : y3 = .int .i64 a := (List.cons.inj hp).1
  rw [agg_flat k1, hm]
  exact callX_ok okPr (I4 o m a) (by simp only [go_sem, reduceIte, Nat.reduceEqDiff, Nat.reduceAdd, Nat.reduceSub, Nat.reduceLT, Nat.reduceLeDiff, Nat.reduceMul, Int.reduceLT, Int.reduceLE, Int.reduceEq, Int.reduceNe, Int.reduceAdd, Int.reduceSub, Int.reduceNeg, Int.reduceMul])

end Go.Z

namespace Go.Proofs.YtbkpojiedkhfkaaGreat
open Go Go.Abs Go.Z Go.RowKit

theorem tests_lifted (os : Os) (started : os.Started) (H : Type) (enc : TypeId × Value → H) :
    ReturnsInHanded {} Tryz.checked os 4 .any (Rows.lineTestsSpec.pre6 enc Tryz.prog Tryz.f4 Rows.lineTestsRow.domain false) (Rows.lineTestsSpec.post enc Tryz.prog Tryz.f4 false true false false) :=
  law_lifted (C := Tryz.checked) 6 4 z_own started (by kernel_rfl) Tryz.func4
    (ChangeSpec.witness6 (enc := enc) (C := Tryz.checked) false ⟨#[], #[.agg #[.slice none 0 0, .slice none 0 0], .slice none 0 0, .int .i64 0], []⟩ 8 (by kernel_rfl) (by kernel_rfl) (by kernel_rfl) (by kernel_rfl))
    rfl rfl Tryz.underlying4 z_laid (by kernel_rfl) (by kernel_rfl)
    (fun ds hd => by
      rw [Tryz.params4] at hd
      match ds, hd with
      | [d1, d2, d3], _ => exact ⟨rfl, rfl, rfl⟩)
    law4

theorem lineTests_holds : Rows.LineTestsSaid :=
  OpenClaim.holds_of_wide 4 Tryz.f4 rfl rfl rfl rfl rfl rfl rfl ⟨rfl, rfl, rfl, rfl, rfl⟩ rfl rfl rfl rfl rfl (by kernel_rfl) Tryz.func4 (by kernel_rfl)
    (of_decide_eq_true (by kernel_rfl)) (by unfold Func.isWrapper; first | (rw [if_pos (by decide +kernel)]; kernel_rfl) | (rw [if_neg (by decide +kernel)]; exact ⟨rfl, rfl⟩))
    (fun os started H enc _ => tests_lifted os started H enc)

end Go.Proofs.YtbkpojiedkhfkaaGreat
