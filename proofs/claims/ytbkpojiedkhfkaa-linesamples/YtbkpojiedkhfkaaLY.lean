/-
  LineSamples returns true for every input, and each argument reads afterwards as it read before (the statement Rows.LineSamplesSaid). No conditions.
-/
import Derived.Test.YtbkpojiedkhfkaaY5
import Derived.Test.YtbkpojiedkhfkaaLG
set_option linter.unusedVariables false
set_option linter.unusedSimpArgs false
set_option maxRecDepth 100000
set_option linter.unusedSimpArgs false
namespace Go.Z
open Go Go.Abs Go.Proofs
def wf3 (x0 : Int) : Prop := (Lit.int .i64 x0).wf = true
def wf23 (x0 : Int) (x1 : Int) (x2 : Int) : Prop := wf3 x0 ∧ wf3 x1 ∧ wf3 x2
theorem rt3 {n : Nat} {cs : List AVal} (h : typedC Try.prog (n + 1) 3 cs) : ∃ (x0 : Int), cs = [.int .i64 x0] ∧ wf3 x0 := by
  simp only [typedC, Try.underlying3] at h
  exact h
theorem rt23 {n : Nat} {cs : List AVal} (h : typedC Try.prog (n + 2) 23 cs) : ∃ (x0 : Int) (x1 : Int) (x2 : Int), cs = [.int .i64 x0, .int .i64 x1, .int .i64 x2] ∧ wf23 x0 x1 x2 := by
  rw [typedC] at h
  simp only [Try.underlying23] at h
  obtain ⟨ys0, zs0, rfl, g0, k0⟩ := h
  obtain ⟨x0, rfl, w0⟩ := rt3 g0
  obtain ⟨ys1, zs1, rfl, g1, k1⟩ := k0
  obtain ⟨x1, rfl, w1⟩ := rt3 g1
  obtain ⟨ys2, zs2, rfl, g2, k2⟩ := k1
  obtain ⟨x2, rfl, w2⟩ := rt3 g2
  rw [show zs2 = [] from k2]
  exact ⟨x0, x1, x2, rfl, w0, w1, w2⟩
def wf5 (x0 : Int) : Prop := (Lit.int .u8 x0).wf = true
theorem rt5 {n : Nat} {cs : List AVal} (h : typedC Try.prog (n + 1) 5 cs) : ∃ (x0 : Int), cs = [.int .u8 x0] ∧ wf5 x0 := by
  simp only [typedC, Try.underlying5] at h
  exact h
theorem tA23 : aggT Try.prog 23 = true := by kernel_rfl
theorem tA5 : aggT Try.prog 5 = false := by kernel_rfl
theorem wf_u8 {x : Int} (h : (Lit.int .u8 x).wf = true) : 0 ≤ x ∧ x ≤ 255 := by
  simp only [Lit.wf, Bool.and_eq_true, decide_eq_true_eq] at h
  have e1 : IntKind.min .u8 = 0 := by decide
  have e2 : IntKind.max .u8 = 255 := by decide
  omega
theorem law3 (xs : List AVal) (h : typedAll Try.prog 4 Try.f3.params.toList xs) : IsoCall Try.prog 3 xs (.bool true) false := by
  rw [Try.params3] at h
  obtain ⟨y0, ys0, rfl, h0, h⟩ := h
  obtain ⟨y1, ys1, rfl, h1, h⟩ := h
  rw [show ys1 = [] from h]
  obtain ⟨g0, k0⟩ := h0
  rw [tA23] at k0
  obtain ⟨p0_0, p0_1, p0_2, e0, q0⟩ := rt23 g0
  obtain ⟨g1, k1⟩ := h1
  rw [tA5] at k1
  obtain ⟨p1_0, e1, q1⟩ := rt5 g1
  rw [flat_one k1] at e1
  obtain rfl : y1 = .int .u8 p1_0 := (List.cons.inj e1).1
  rw [agg_flat k0, e0]
  exact callX_ok okPr (I3 ⟨p0_0, p0_1, p0_2⟩ p1_0 (wf_u8 q1).1 (wf_u8 q1).2) (by simp only [go_sem, reduceIte, Nat.reduceEqDiff, Nat.reduceAdd, Nat.reduceSub, Nat.reduceLT, Nat.reduceLeDiff, Nat.reduceMul, Int.reduceLT, Int.reduceLE, Int.reduceEq, Int.reduceNe, Int.reduceAdd, Int.reduceSub, Int.reduceNeg, Int.reduceMul])
end Go.Z
namespace Go.Proofs.Ytbkpojiedkhfkaa
open Go Go.Abs Go.Z Go.RowKit
theorem law3_lifted (os : Os) (started : os.Started) (H : Type) (enc : TypeId × Value → H) :
    ReturnsInHanded {} Try.checked os 3 .any (Rows.lineSamplesSpec.pre6 enc Try.prog Try.f3 Rows.lineSamplesRow.domain false) (Rows.lineSamplesSpec.post enc Try.prog Try.f3 false true false false) :=
  law_lifted (C := Try.checked) 4 4 z_own started (by kernel_rfl) Try.func3
    (ChangeSpec.witness6 (enc := enc) (C := Try.checked) false ⟨#[], #[.agg #[.int .i64 0, .int .i64 0, .int .i64 0], .int .u8 0], []⟩ 8 (by kernel_rfl) (by kernel_rfl) (by kernel_rfl) (by kernel_rfl))
    rfl rfl Try.underlying4 z_laid (by kernel_rfl) (by kernel_rfl)
    (fun ds hd => by
      rw [Try.params3] at hd
      match ds, hd with
      | [d1, d2], _ => exact ⟨rfl, rfl, rfl⟩)
    law3
theorem lineSamples_holds : Rows.LineSamplesSaid :=
  OpenClaim.holds_of_wide 3 Try.f3 rfl rfl rfl rfl rfl rfl rfl ⟨rfl, rfl, rfl, rfl, rfl⟩ rfl rfl rfl rfl rfl (by kernel_rfl) Try.func3 (by kernel_rfl)
    (of_decide_eq_true (by kernel_rfl)) (by unfold Func.isWrapper; first | (rw [if_pos (by decide +kernel)]; kernel_rfl) | (rw [if_neg (by decide +kernel)]; exact ⟨rfl, rfl⟩))
    (fun os started H enc _ => law3_lifted os started H enc)
end Go.Proofs.Ytbkpojiedkhfkaa
