/-
  Learn, both: their runs.
-/
import Derived.Test.YtbkpojiedkhfkaaGreatL8
set_option linter.unusedVariables false
set_option linter.unusedSimpArgs false
set_option maxRecDepth 100000
set_option linter.unusedSimpArgs false
namespace Go.Z
open Go Go.Abs
def lenN : List GUnit → Nat
  | [] => 0
  | u :: _ => (u.values.getD []).length
def learnE (l : List GUnit) (g : Int) : Int := firstNZ [unitsE l, checkRange g 0 100000, whenE (decide ((l.length : Int) = 0)) 12]
def learnedM (l : List GUnit) (g : Int) : GMask := ⟨nonNil ((List.range (lenN l)).map fun t => loF g (col t l)), nonNil ((List.range (lenN l)).map fun t => hiF g (col t l))⟩
def learnM (l : List GUnit) (g : Int) : GMask := if learnE l g = 0 then learnedM l g else ⟨none, none⟩
theorem stepU_len {n0 : Int} {seen : List (List UInt8)} {u : GUnit} (h : stepU n0 seen u = 0) : lenU u = n0 := by
  by_cases hh : lenU u = n0
  · exact hh
  · exfalso
    revert h
    simp only [stepU, firstNZ, whenE, hh, decide_false, Bool.not_false, if_true]
    split <;> simp_all
theorem firstU_len {n0 : Int} : ∀ {l : List GUnit} {seen : List (List UInt8)}, firstU n0 seen l = 0 → ∀ u ∈ l, lenU u = n0
  | u :: l, seen, h, x, hx => by
    simp only [firstU] at h
    by_cases hz : stepU n0 seen u = 0
    · rw [if_pos hz] at h
      cases hx with
      | head => exact stepU_len hz
      | tail _ hx => exact firstU_len h x hx
    · rw [if_neg hz] at h; exact absurd h hz
theorem learnE_units {l : List GUnit} {g : Int} (h : learnE l g = 0) : unitsE l = 0 := by
  by_cases hh : unitsE l = 0
  · exact hh
  · simp only [learnE, firstNZ, if_neg hh] at h; exact h
theorem learnE_ne {l : List GUnit} {g : Int} (h : learnE l g = 0) : l ≠ [] := by
  intro hh
  rw [hh] at h
  have : learnE [] g ≠ 0 := by
    simp only [learnE, unitsE, firstNZ, firstU, whenE]
    by_cases hc : checkRange g 0 100000 = 0 <;> simp [hc]
  exact this h
theorem units_len {l : List GUnit} (h : unitsE l = 0) : ∀ u ∈ l, (u.values.getD []).length = lenN l := by
  intro u hu
  unfold unitsE at h
  split at h
  · have := firstU_len h u hu
    cases l with
    | nil => cases hu
    | cons a l =>
      simp only [len0, lenU] at this
      simp only [lenN]
      omega
  · cases h
theorem len_first {o : Option (List GUnit)} {u0 : GUnit} (h0 : (o.getD [])[0]? = some u0) : (u0.values.getD []).length = lenN (o.getD []) := by
  cases hc : o.getD [] with
  | nil => rw [hc] at h0; cases h0
  | cons a l => rw [hc] at h0; cases h0; rfl
theorem I17 (o : Option (List GUnit)) (g : Int) (hn : (o.getD []).length ≤ 1073741824) (hs : ∀ u ∈ o.getD [], sizeU u) :
    callIso pr (X pr) 17 [sl 2 vunit o, .int .i64 g] = some (.tup [.agg [sl 1 vint (learnM (o.getD []) g).least, sl 1 vint (learnM (o.getD []) g).most], .int .i64 (learnE (o.getD []) g)], false) := by
  have : ∃ hh, callFn pr (X pr) 17 [sl 2 vunit o, .int .i64 g] [] = some (.tup [.agg [sl 1 vint (learnM (o.getD []) g).least, sl 1 vint (learnM (o.getD []) g).most], .int .i64 (learnE (o.getD []) g)], false, hh) := by
    rw [callFn_at (show pr.fns 17 = some c17 from rfl) (by simp)]
    have h28 := I28 o hn hs
    by_cases hz : learnE (o.getD []) g = 0
    · have hne := learnE_ne hz
      have hlen := units_len (learnE_units hz)
      obtain ⟨u0, h0⟩ : ∃ u0, (o.getD [])[0]? = some u0 := by
        cases hc : o.getD [] with
        | nil => exact absurd hc hne
        | cons a l => exact ⟨a, rfl⟩
      have hu0 := hs u0 (List.mem_of_getElem? h0)
      have hl := l17 o g (u0.values.getD []).length hne hn hu0.2 (fun t ht u hu => by rw [hlen u hu, ← len_first h0]; exact ht)
      have hM : learnM (o.getD []) g = learnedM (o.getD []) g := if_pos hz
      rw [hM, hz]
      simp only [accBox, nn, acc_sl] at hl
      rw [len_first h0] at hl
      have h0n : (((u0.values.getD []).length : Nat) : Int) = ((lenN (o.getD []) : Nat) : Int) := by rw [len_first h0]
      simp only [learnE] at hz
      simp only [go_sem, c17, h28, I88, I89, I87_3, hz, idx_sl0 h0, h0n, hl, learnedM, reduceIte, Nat.reduceEqDiff, Nat.reduceAdd, Nat.reduceSub, Nat.reduceLT, Nat.reduceLeDiff, Nat.reduceMul, Int.reduceLT, Int.reduceLE, Int.reduceEq, Int.reduceNe, Int.reduceAdd, Int.reduceSub, Int.reduceNeg, Int.reduceMul]
      exact ⟨_, rfl⟩
    · have hM : learnM (o.getD []) g = ⟨none, none⟩ := if_neg hz
      rw [hM]
      simp only [learnE] at hz ⊢
      simp only [go_sem, c17, h28, I88, I89, I87_3, hz, reduceIte, Nat.reduceEqDiff, Nat.reduceAdd, Nat.reduceSub, Nat.reduceLT, Nat.reduceLeDiff, Nat.reduceMul, Int.reduceLT, Int.reduceLE, Int.reduceEq, Int.reduceNe, Int.reduceAdd, Int.reduceSub, Int.reduceNeg, Int.reduceMul]
      exact ⟨_, rfl⟩
  obtain ⟨hh, this⟩ := this
  exact callIso_of rfl this (by simp only [go_sem, reduceIte, Nat.reduceEqDiff, Nat.reduceAdd, Nat.reduceSub, Nat.reduceLT, Nat.reduceLeDiff, Nat.reduceMul, Int.reduceLT, Int.reduceLE, Int.reduceEq, Int.reduceNe, Int.reduceAdd, Int.reduceSub, Int.reduceNeg, Int.reduceMul]) (by simp only [go_sem, reduceIte, Nat.reduceEqDiff, Nat.reduceAdd, Nat.reduceSub, Nat.reduceLT, Nat.reduceLeDiff, Nat.reduceMul, Int.reduceLT, Int.reduceLE, Int.reduceEq, Int.reduceNe, Int.reduceAdd, Int.reduceSub, Int.reduceNeg, Int.reduceMul])
end Go.Z
