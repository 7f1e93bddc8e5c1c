/-
  The abstract program is the given one; what plain data comes in.
-/
import Derived.Test.YtbkpojiedkhfkaaGreatL3
import Derived.Test.YtbkpojiedkhfkaaGreatZWI
import Derived.Test.YtbkpojiedkhfkaaGreatZP
import Derived.Test.YtbkpojiedkhfkaaGreatAbsH
import Derived.Test.YtbkpojiedkhfkaaGreatRows
import Derived.WalkKit
import Derived.ProofKit
set_option linter.unusedVariables false
set_option linter.unusedSimpArgs false
set_option maxRecDepth 100000
set_option linter.unusedSimpArgs false
namespace Go.Z
open Go Go.Abs Go.Proofs
theorem enters_of {k : Nat} {f : AFun} (h : Is k f) : Enters Tryz.prog k := by
  obtain ⟨fn, hh, h1, h2⟩ := h
  obtain ⟨c, g1, g2, g3, g4, g5⟩ := cFun_inv h2
  exact ⟨fn, h1, g5, by rw [g1]; rfl⟩
theorem enters_tree {k : Nat} (h : (tree.find k).isSome = true) : Enters Tryz.prog k := by
  obtain ⟨f, hf⟩ := Option.isSome_iff_exists.1 h
  exact enters_of (FTree.find_all all hf)
theorem tab_in : ∀ (t : List (Nat × List Row)), (t.all fun p => (tree.find p.1).isSome) = true → ∀ k l, lookTab t k = some l → (tree.find k).isSome = true
  | (j, m) :: t, h, k, l, hk => by
    simp only [List.all_cons, Bool.and_eq_true] at h
    simp only [lookTab, Bool.cond_eq_ite] at hk
    split at hk
    · next hb => rw [← Nat.eq_of_beq_eq_true hb]; exact h.1
    · exact tab_in t h.2 k l hk
theorem awakeIso : IsoCall Tryz.prog 14 [] (.bool true) false :=
  iso_of_run (progOk_tab ok0 (tabOk ok0) fun k l hk => enters_tree (tab_in tabL (by kernel_rfl) k l hk)) awakeRun
theorem okPr : ProgOk Tryz.prog pr where
  fn := ok0.fn
  prim := by
    intro k f hf
    have : k = 14 ∧ f = awakeT := by
      simp only [pr, FTree.prog, Bool.cond_eq_ite] at hf
      split at hf
      · next hb => exact ⟨Nat.eq_of_beq_eq_true hb, by simpa using hf.symm⟩
      · cases hf
    obtain ⟨rfl, rfl⟩ := this
    refine ⟨enters_tree (by kernel_rfl), ?_⟩
    intro args v o hv _ _
    cases args with
    | nil => cases hv; exact awakeIso
    | cons a l => cases hv
  mixed := ok0.mixed
theorem map_of {α : Type} {f : α → AVal} : ∀ {xs : List AVal}, (∀ y ∈ xs, ∃ a, y = f a) → ∃ l : List α, xs = l.map f
  | [], _ => ⟨[], rfl⟩
  | y :: xs, h => by
    obtain ⟨a, ha⟩ := h y (List.mem_cons_self ..)
    obtain ⟨l, hl⟩ := map_of (f := f) (fun z hz => h z (List.mem_cons_of_mem _ hz))
    exact ⟨a :: l, by rw [ha, hl]; rfl⟩
theorem flat_one {y : AVal} (h : y.isAgg = false) : y.flat = [y] := by
  cases y <;> first | rfl | cases h
theorem agg_flat {y : AVal} (h : y.isAgg = true) : y = .agg y.flat := by
  cases y <;> first | rfl | cases h
theorem cells3 : Tryz.prog.cellsOf 3 = 1 := by kernel_rfl
theorem cells51 : Tryz.prog.cellsOf 51 = 2 := by kernel_rfl
theorem agg3 : aggT Tryz.prog 3 = false := by kernel_rfl
theorem agg51 : aggT Tryz.prog 51 = true := by kernel_rfl
theorem agg22 : aggT Tryz.prog 22 = false := by kernel_rfl
theorem agg25 : aggT Tryz.prog 25 = true := by kernel_rfl
theorem agg26 : aggT Tryz.prog 26 = true := by kernel_rfl
theorem rdInt {n : Nat} {cs : List AVal} (h : typedC Tryz.prog (n + 1) 3 cs) : ∃ m, cs = [.int .i64 m] := by
  simp only [typedC, Tryz.underlying3] at h
  obtain ⟨m, hm, _⟩ := h
  exact ⟨m, hm⟩
theorem rdInts {n : Nat} {cs : List AVal} (h : typedC Tryz.prog (n + 2) 23 cs) : ∃ o : Option (List Int), cs = [sl 1 vint o] := by
  rw [typedC] at h
  simp only [Tryz.underlying23] at h
  rcases h with h | ⟨xs, h, _, hx⟩
  · exact ⟨none, h⟩
  · obtain ⟨l, hl⟩ := map_of (f := vint) (xs := xs) (fun y hy => by
      obtain ⟨h1, h2⟩ := hx y hy
      rw [agg3] at h2
      obtain ⟨m, hm⟩ := rdInt h1
      rw [flat_one h2] at hm
      exact ⟨m, (List.cons.inj hm).1⟩)
    exact ⟨some l, by rw [h, hl, cells3]; rfl⟩
theorem rdUnit {n : Nat} {cs : List AVal} (h : typedC Tryz.prog (n + 3) 51 cs) : ∃ u : GUnit, cs = [.str u.serial, sl 1 vint u.values] := by
  rw [typedC] at h
  simp only [Tryz.underlying51] at h
  obtain ⟨ys, zs, rfl, h1, h2⟩ := h
  obtain ⟨ys', zs', rfl, h3, h4⟩ := h2
  rw [show zs' = [] from h4]
  rw [typedC] at h1
  simp only [Tryz.underlying9] at h1
  obtain ⟨s, rfl, _⟩ := h1
  obtain ⟨o, rfl⟩ := rdInts h3
  exact ⟨⟨s, o⟩, rfl⟩
theorem rdUnits {n : Nat} {cs : List AVal} (h : typedC Tryz.prog (n + 4) 22 cs) : ∃ o : Option (List GUnit), cs = [sl 2 vunit o] := by
  rw [typedC] at h
  simp only [Tryz.underlying22] at h
  rcases h with h | ⟨xs, h, _, hx⟩
  · exact ⟨none, h⟩
  · obtain ⟨l, hl⟩ := map_of (f := vunit) (xs := xs) (fun y hy => by
      obtain ⟨h1, h2⟩ := hx y hy
      rw [agg51] at h2
      obtain ⟨u, hu⟩ := rdUnit h1
      exact ⟨u, by rw [agg_flat h2, hu]; rfl⟩)
    exact ⟨some l, by rw [h, hl, cells51]; rfl⟩
theorem rdMask {n : Nat} {cs : List AVal} (h : typedC Tryz.prog (n + 3) 25 cs) : ∃ m : GMask, cs = [sl 1 vint m.least, sl 1 vint m.most] := by
  rw [typedC] at h
  simp only [Tryz.underlying25] at h
  obtain ⟨ys, zs, rfl, h1, h2⟩ := h
  obtain ⟨ys', zs', rfl, h3, h4⟩ := h2
  rw [show zs' = [] from h4]
  obtain ⟨a, rfl⟩ := rdInts h1
  obtain ⟨b, rfl⟩ := rdInts h3
  exact ⟨⟨a, b⟩, rfl⟩
theorem rdPair {n : Nat} {cs : List AVal} (h : typedC Tryz.prog (n + 2) 26 cs) : ∃ a b : Int, cs = [.int .i64 a, .int .i64 b] := by
  rw [typedC] at h
  simp only [Tryz.underlying26] at h
  obtain ⟨ys, zs, rfl, h1, h2⟩ := h
  obtain ⟨ys', zs', rfl, h3, h4⟩ := h2
  rw [show zs' = [] from h4]
  obtain ⟨a, rfl⟩ := rdInt h1
  obtain ⟨b, rfl⟩ := rdInt h3
  exact ⟨a, b, rfl⟩
end Go.Z
namespace Go.Proofs.YtbkpojiedkhfkaaGreat
theorem z_own : ownKnob Tryz.prog.godebug = none := by kernel_rfl
theorem z_laid : laidOutB Tryz.prog = true := by kernel_rfl
end Go.Proofs.YtbkpojiedkhfkaaGreat
