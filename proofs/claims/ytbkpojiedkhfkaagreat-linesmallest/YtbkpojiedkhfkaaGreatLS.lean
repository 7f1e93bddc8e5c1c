/-
  LineSmallest returns true for every input, and each argument reads afterwards as it read before (the statement Rows.LineSmallestSaid). No conditions.
-/
import Derived.Test.YtbkpojiedkhfkaaGreatS5
import Derived.Test.YtbkpojiedkhfkaaGreatLG
set_option linter.unusedVariables false
set_option linter.unusedSimpArgs false
set_option maxRecDepth 100000
set_option linter.unusedSimpArgs false
namespace Go.Z
open Go Go.Abs Go.Proofs
theorem rt3 {n : Nat} {cs : List AVal} (h : typedC Tryz.prog (n + 1) 3 cs) : ∃ (x0 : Int), cs = [.int .i64 x0] ∧ (Lit.int .i64 x0).wf = true := by
  simp only [typedC, Tryz.underlying3] at h
  exact h
theorem rt26 {n : Nat} {cs : List AVal} (h : typedC Tryz.prog (n + 2) 26 cs) : ∃ (x0 : Int) (x1 : Int), cs = [.int .i64 x0, .int .i64 x1] := by
  rw [typedC] at h
  simp only [Tryz.underlying26] at h
  obtain ⟨ys0, zs0, rfl, g0, k0⟩ := h
  obtain ⟨x0, rfl, _⟩ := rt3 g0
  obtain ⟨ys1, zs1, rfl, g1, k1⟩ := k0
  obtain ⟨x1, rfl, _⟩ := rt3 g1
  rw [show zs1 = [] from k1]
  exact ⟨x0, x1, rfl⟩
theorem rt59 {n : Nat} {cs : List AVal} (h : typedC Tryz.prog (n + 2) 59 cs) : ∃ (x0 : Int) (x1 : Int), cs = [.int .i64 x0, .int .i64 x1] := by
  rw [typedC] at h
  simp only [Tryz.underlying59] at h
  obtain ⟨ys0, zs0, rfl, g0, k0⟩ := h
  obtain ⟨x0, rfl, _⟩ := rt3 g0
  obtain ⟨ys1, zs1, rfl, g1, k1⟩ := k0
  obtain ⟨x1, rfl, _⟩ := rt3 g1
  rw [show zs1 = [] from k1]
  exact ⟨x0, x1, rfl⟩
theorem rt75 {n : Nat} {cs : List AVal} (h : typedC Tryz.prog (n + 3) 75 cs) : ∃ (x0 : Int) (x1 : Int) (x2 : Int) (x3 : Int), cs = [.int .i64 x0, .int .i64 x1, .int .i64 x2, .int .i64 x3] := by
  rw [typedC] at h
  simp only [Tryz.underlying75] at h
  obtain ⟨ys0, zs0, rfl, g0, k0⟩ := h
  obtain ⟨x0, x1, rfl⟩ := rt59 g0
  obtain ⟨ys1, zs1, rfl, g1, k1⟩ := k0
  obtain ⟨x2, x3, rfl⟩ := rt59 g1
  rw [show zs1 = [] from k1]
  exact ⟨x0, x1, x2, x3, rfl⟩
theorem tA3 : aggT Tryz.prog 3 = false := by kernel_rfl
theorem tA26 : aggT Tryz.prog 26 = true := by kernel_rfl
theorem tA75 : aggT Tryz.prog 75 = true := by kernel_rfl
theorem law6 (xs : List AVal) (h : typedAll Tryz.prog 5 Tryz.f6.params.toList xs) : IsoCall Tryz.prog 6 xs (.bool true) false := by
  rw [Tryz.params6] at h
  obtain ⟨y0, ys0, rfl, h0, h⟩ := h
  obtain ⟨y1, ys1, rfl, h1, h⟩ := h
  obtain ⟨y2, ys2, rfl, h2, h⟩ := h
  rw [show ys2 = [] from h]
  obtain ⟨g0, k0⟩ := h0
  rw [tA3] at k0
  obtain ⟨p0_0, e0, q0⟩ := rt3 g0
  rw [flat_one k0] at e0
  obtain rfl : y0 = .int .i64 p0_0 := (List.cons.inj e0).1
  obtain ⟨g1, k1⟩ := h1
  rw [tA26] at k1
  obtain ⟨p1_0, p1_1, e1⟩ := rt26 g1
  obtain ⟨g2, k2⟩ := h2
  rw [tA75] at k2
  obtain ⟨p2_0, p2_1, p2_2, p2_3, e2⟩ := rt75 g2
  rw [agg_flat k1, e1, agg_flat k2, e2]
  exact callX_ok okPr (I6 p0_0 ⟨p1_0, p1_1⟩ ⟨p2_0, p2_1, p2_2, p2_3⟩) (by simp only [go_sem, reduceIte, Nat.reduceEqDiff, Nat.reduceAdd, Nat.reduceSub, Nat.reduceLT, Nat.reduceLeDiff, Nat.reduceMul, Int.reduceLT, Int.reduceLE, Int.reduceEq, Int.reduceNe, Int.reduceAdd, Int.reduceSub, Int.reduceNeg, Int.reduceMul])
end Go.Z
namespace Go.Proofs.YtbkpojiedkhfkaaGreat
open Go Go.Abs Go.Z Go.RowKit
theorem law6_lifted (os : Os) (started : os.Started) (H : Type) (enc : TypeId × Value → H) :
    ReturnsInHanded {} Tryz.checked os 6 .any (Rows.lineSmallestSpec.pre6 enc Tryz.prog Tryz.f6 Rows.lineSmallestRow.domain false) (Rows.lineSmallestSpec.post enc Tryz.prog Tryz.f6 false true false false) :=
  law_lifted (C := Tryz.checked) 5 4 z_own started (by kernel_rfl) Tryz.func6
    (ChangeSpec.witness6 (enc := enc) (C := Tryz.checked) false ⟨#[], #[.int .i64 0, .agg #[.int .i64 0, .int .i64 0], .agg #[.int .i64 0, .int .i64 0, .int .i64 0, .int .i64 0]], []⟩ 8 (by kernel_rfl) (by kernel_rfl) (by kernel_rfl) (by kernel_rfl))
    rfl rfl Tryz.underlying4 z_laid (by kernel_rfl) (by kernel_rfl)
    (fun ds hd => by
      rw [Tryz.params6] at hd
      match ds, hd with
      | [d1, d2, d3], _ => exact ⟨rfl, rfl, rfl⟩)
    law6
theorem lineSmallest_holds : Rows.LineSmallestSaid :=
  OpenClaim.holds_of_wide 6 Tryz.f6 rfl rfl rfl rfl rfl rfl rfl ⟨rfl, rfl, rfl, rfl, rfl⟩ rfl rfl rfl rfl rfl (by kernel_rfl) Tryz.func6 (by kernel_rfl)
    (of_decide_eq_true (by kernel_rfl)) (by unfold Func.isWrapper; first | (rw [if_pos (by decide +kernel)]; kernel_rfl) | (rw [if_neg (by decide +kernel)]; exact ⟨rfl, rfl⟩))
    (fun os started H enc _ => law6_lifted os started H enc)
end Go.Proofs.YtbkpojiedkhfkaaGreat
