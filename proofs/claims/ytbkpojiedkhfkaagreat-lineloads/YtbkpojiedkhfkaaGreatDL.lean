/-
  LineLoads returns true for every input, and each argument reads afterwards as it read before (the statement Rows.LineLoadsSaid). No conditions.
-/
import Derived.Test.YtbkpojiedkhfkaaGreatD9
import Derived.Test.YtbkpojiedkhfkaaGreatLG
set_option linter.unusedVariables false
set_option linter.unusedSimpArgs false
set_option maxRecDepth 100000
set_option linter.unusedSimpArgs false
namespace Go.Z
open Go Go.Abs Go.Proofs
theorem map_of2 {α : Type} {f : α → AVal} {Q : α → Prop} : ∀ {xs : List AVal}, (∀ y ∈ xs, ∃ a, y = f a ∧ Q a) → ∃ l : List α, xs = l.map f ∧ ∀ a ∈ l, Q a
  | [], _ => ⟨[], rfl, by simp⟩
  | y :: xs, h => by
    obtain ⟨a, ha, hq⟩ := h y (List.mem_cons_self ..)
    obtain ⟨l, hl, hr⟩ := map_of2 (f := f) (Q := Q) (fun z hz => h z (List.mem_cons_of_mem _ hz))
    exact ⟨a :: l, by rw [ha, hl]; rfl, fun b hb => by
      rcases List.mem_cons.1 hb with rfl | hb
      · exact hq
      · exact hr b hb⟩
def wf3 (x0 : Int) : Prop := (Lit.int .i64 x0).wf = true
def wf23 (x0 : Option (List Int)) : Prop := (x0.getD []).length ≤ maxLen ∧ ∀ y ∈ x0.getD [], wf3 y
theorem rt3 {n : Nat} {cs : List AVal} (h : typedC Tryz.prog (n + 1) 3 cs) : ∃ (x0 : Int), cs = [.int .i64 x0] ∧ wf3 x0 := by
  simp only [typedC, Tryz.underlying3] at h
  exact h
theorem tA3 : aggT Tryz.prog 3 = false := by kernel_rfl
theorem tC3 : Tryz.prog.cellsOf 3 = 1 := by kernel_rfl
theorem rt23 {n : Nat} {cs : List AVal} (h : typedC Tryz.prog (n + 2) 23 cs) : ∃ (x0 : Option (List Int)), cs = [sl 1 vint x0] ∧ wf23 x0 := by
  rw [typedC] at h
  simp only [Tryz.underlying23] at h
  rcases h with h | ⟨xs, h, hln, hx⟩
  · exact ⟨none, h, by simp [wf23]⟩
  · obtain ⟨l, hl, hq⟩ := map_of2 (f := vint) (Q := fun y => wf3 y) (xs := xs) (fun y hy => by
      obtain ⟨h1, h2⟩ := hx y hy
      rw [tA3] at h2
      obtain ⟨y0, hm, hq⟩ := rt3 h1
      rw [flat_one h2] at hm
      exact ⟨y0, (List.cons.inj hm).1, hq⟩)
    exact ⟨some l, by rw [h, hl, tC3]; rfl, by rw [hl, List.length_map] at hln; exact ⟨hln, hq⟩⟩
def wf5 (x0 : Int) : Prop := (Lit.int .u8 x0).wf = true
def wf126 (x0 : Option (List Int)) : Prop := (x0.getD []).length ≤ maxLen ∧ ∀ y ∈ x0.getD [], wf5 y
theorem rt5 {n : Nat} {cs : List AVal} (h : typedC Tryz.prog (n + 1) 5 cs) : ∃ (x0 : Int), cs = [.int .u8 x0] ∧ wf5 x0 := by
  simp only [typedC, Tryz.underlying5] at h
  exact h
theorem tA5 : aggT Tryz.prog 5 = false := by kernel_rfl
theorem tC5 : Tryz.prog.cellsOf 5 = 1 := by kernel_rfl
theorem rt126 {n : Nat} {cs : List AVal} (h : typedC Tryz.prog (n + 2) 126 cs) : ∃ (x0 : Option (List Int)), cs = [sl 1 (vintk .u8) x0] ∧ wf126 x0 := by
  rw [typedC] at h
  simp only [Tryz.underlying126] at h
  rcases h with h | ⟨xs, h, hln, hx⟩
  · exact ⟨none, h, by simp [wf126]⟩
  · obtain ⟨l, hl, hq⟩ := map_of2 (f := (vintk .u8)) (Q := fun y => wf5 y) (xs := xs) (fun y hy => by
      obtain ⟨h1, h2⟩ := hx y hy
      rw [tA5] at h2
      obtain ⟨y0, hm, hq⟩ := rt5 h1
      rw [flat_one h2] at hm
      exact ⟨y0, (List.cons.inj hm).1, hq⟩)
    exact ⟨some l, by rw [h, hl, tC5]; rfl, by rw [hl, List.length_map] at hln; exact ⟨hln, hq⟩⟩
def wf127 (x0 : Int) (x1 : Int) : Prop := wf5 x0 ∧ wf5 x1
theorem rt127 {n : Nat} {cs : List AVal} (h : typedC Tryz.prog (n + 2) 127 cs) : ∃ (x0 : Int) (x1 : Int), cs = [.int .u8 x0, .int .u8 x1] ∧ wf127 x0 x1 := by
  rw [typedC] at h
  simp only [Tryz.underlying127] at h
  obtain ⟨ys0, zs0, rfl, g0, k0⟩ := h
  obtain ⟨x0, rfl, w0⟩ := rt5 g0
  obtain ⟨ys1, zs1, rfl, g1, k1⟩ := k0
  obtain ⟨x1, rfl, w1⟩ := rt5 g1
  rw [show zs1 = [] from k1]
  exact ⟨x0, x1, rfl, w0, w1⟩
theorem tA23 : aggT Tryz.prog 23 = false := by kernel_rfl
theorem tA126 : aggT Tryz.prog 126 = false := by kernel_rfl
theorem tA127 : aggT Tryz.prog 127 = true := by kernel_rfl
theorem wf_u8 {x : Int} (h : (Lit.int .u8 x).wf = true) : 0 ≤ x ∧ x ≤ 255 := by
  simp only [Lit.wf, Bool.and_eq_true, decide_eq_true_eq] at h
  have e1 : IntKind.min .u8 = 0 := by decide
  have e2 : IntKind.max .u8 = 255 := by decide
  omega
theorem law12 (xs : List AVal) (h : typedAll Tryz.prog 4 Tryz.f12.params.toList xs) : IsoCall Tryz.prog 12 xs (.bool true) false := by
  rw [Tryz.params12] at h
  obtain ⟨y0, ys0, rfl, h0, h⟩ := h
  obtain ⟨y1, ys1, rfl, h1, h⟩ := h
  obtain ⟨y2, ys2, rfl, h2, h⟩ := h
  rw [show ys2 = [] from h]
  obtain ⟨g0, k0⟩ := h0
  rw [tA23] at k0
  obtain ⟨p0_0, e0, q0⟩ := rt23 g0
  rw [flat_one k0] at e0
  obtain rfl : y0 = sl 1 vint p0_0 := (List.cons.inj e0).1
  obtain ⟨g1, k1⟩ := h1
  rw [tA126] at k1
  obtain ⟨p1_0, e1, q1⟩ := rt126 g1
  rw [flat_one k1] at e1
  obtain rfl : y1 = sl 1 (vintk .u8) p1_0 := (List.cons.inj e1).1
  obtain ⟨g2, k2⟩ := h2
  rw [tA127] at k2
  obtain ⟨p2_0, p2_1, e2, q2⟩ := rt127 g2
  rw [agg_flat k2, e2]
  exact callX_ok okL (I12 p0_0 p1_0 ⟨p2_0, p2_1⟩ (wf_u8 q2.1) (wf_u8 q2.2) (fun x hx => wf_u8 (q1.2 x hx))) (by simp only [go_sem, reduceIte, Nat.reduceEqDiff, Nat.reduceAdd, Nat.reduceSub, Nat.reduceLT, Nat.reduceLeDiff, Nat.reduceMul, Int.reduceLT, Int.reduceLE, Int.reduceEq, Int.reduceNe, Int.reduceAdd, Int.reduceSub, Int.reduceNeg, Int.reduceMul])
end Go.Z
namespace Go.Proofs.YtbkpojiedkhfkaaGreat
open Go Go.Abs Go.Z Go.RowKit
theorem law12_lifted (os : Os) (started : os.Started) (H : Type) (enc : TypeId × Value → H) :
    ReturnsInHanded {} Tryz.checked os 12 .any (Rows.lineLoadsSpec.pre6 enc Tryz.prog Tryz.f12 Rows.lineLoadsRow.domain false) (Rows.lineLoadsSpec.post enc Tryz.prog Tryz.f12 false true false false) :=
  law_lifted (C := Tryz.checked) 4 4 z_own started (by kernel_rfl) Tryz.func12
    (ChangeSpec.witness6 (enc := enc) (C := Tryz.checked) false ⟨#[], #[.slice none 0 0, .slice none 0 0, .agg #[.int .u8 0, .int .u8 0]], []⟩ 8 (by kernel_rfl) (by kernel_rfl) (by kernel_rfl) (by kernel_rfl))
    rfl rfl Tryz.underlying4 z_laid (by kernel_rfl) (by kernel_rfl)
    (fun ds hd => by
      rw [Tryz.params12] at hd
      match ds, hd with
      | [d1, d2, d3], _ => exact ⟨rfl, rfl, rfl⟩)
    law12
theorem lineLoads_holds : Rows.LineLoadsSaid :=
  OpenClaim.holds_of_wide 12 Tryz.f12 rfl rfl rfl rfl rfl rfl rfl ⟨rfl, rfl, rfl, rfl, rfl⟩ rfl rfl rfl rfl rfl (by kernel_rfl) Tryz.func12 (by kernel_rfl)
    (of_decide_eq_true (by kernel_rfl)) (by unfold Func.isWrapper; first | (rw [if_pos (by decide +kernel)]; kernel_rfl) | (rw [if_neg (by decide +kernel)]; exact ⟨rfl, rfl⟩))
    (fun os started H enc _ => law12_lifted os started H enc)
end Go.Proofs.YtbkpojiedkhfkaaGreat
