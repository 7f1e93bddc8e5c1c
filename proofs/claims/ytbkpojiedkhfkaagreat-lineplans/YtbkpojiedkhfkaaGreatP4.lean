/-
  Acceptance in numbers; risks: the runs.
-/
import Derived.Test.YtbkpojiedkhfkaaGreatP3

set_option linter.unusedVariables false
set_option linter.unusedSimpArgs false

set_option maxRecDepth 100000
set_option linter.unusedSimpArgs false
namespace Go.Z
open Go Go.Abs

def chOk : Bool := (List.range 31).all fun n => (List.range 31).all fun k => Nat.ble ((row n).getD k 0) 1073741824
theorem chOk_true : chOk = true := by kernel_rfl
theorem ch_le {n k : Nat} (hn : n ≤ 30) (hk : k ≤ 30) : ch n k ≤ 1073741824 := by
  have h := chOk_true
  unfold chOk at h
  have h1 := List.all_eq_true.1 h n (List.mem_range.2 (by omega))
  have h2 := List.all_eq_true.1 h1 k (List.mem_range.2 (by omega))
  rw [← row_at]
  exact Nat.le_of_ble_eq_true h2
theorem ch_pos : ∀ (n k : Nat), k ≤ n → 0 < ch n k
  | n, 0, _ => by rw [ch_zero]; decide
  | n + 1, k + 1, h => by
    have := ch_pos n k (by omega)
    simp only [ch]
    omega

/-- in how many samples at most so many units fail -/
def accN (L S d a : Nat) : Nat := psum (fun k => ch d k * ch (L - d) (S - k)) (a + 1)
theorem accN_le {L S d a : Nat} (hd : d ≤ L) (ha : a ≤ S) : accN L S d a ≤ ch L S := by
  unfold accN
  have h1 : psum (fun k => ch d k * ch (L - d) (S - k)) (a + 1) ≤ psum (fun k => ch d k * ch (L - d) (S - k)) (S + 1) := psum_mono (by omega)
  rw [psum_conv (ch (L - d)) S (ch d), vandermonde, show d + (L - d) = L by omega] at h1
  exact h1
theorem accI_eq {L S d : Nat} (hL : L ≤ 30) (hS : S ≤ L) (hd : d ≤ L) : ∀ a, a ≤ S → accI (L : Int) (S : Int) (d : Int) a = (accN L S d a : Int)
  | a, ha => by
    have hstep : ∀ k, k ≤ a → accStep (L : Int) (S : Int) (d : Int) (psum (fun k => ch d k * ch (L - d) (S - k)) k : Int) k = (psum (fun k => ch d k * ch (L - d) (S - k)) (k + 1) : Int) := by
      intro k hk
      have hb := accN_le (L := L) (S := S) (d := d) (a := k) hd (by omega)
      have hc := ch_le (n := L) (k := S) hL (by omega)
      unfold accN at hb
      have h1 : wrapF .i64 ((L : Int) - (d : Int)) = ((L - d : Nat) : Int) := by rw [wrapF_i64 (by omega) (by omega)]; omega
      have h2 : wrapF .i64 ((S : Int) - (k : Int)) = ((S - k : Nat) : Int) := by rw [wrapF_i64 (by omega) (by omega)]; omega
      have h3 := binI_ch (n := d) (k := k) (by omega) (by omega)
      have h4 := binI_ch (n := L - d) (k := S - k) (by omega) (by omega)
      unfold accStep
      rw [h1, h2, h3, h4]
      simp only [psum] at hb ⊢
      generalize psum (fun k => ch d k * ch (L - d) (S - k)) k = q at *
      have hm : (ch d k : Int) * (ch (L - d) (S - k) : Int) = ((ch d k * ch (L - d) (S - k) : Nat) : Int) := (Int.natCast_mul _ _).symm
      rw [hm]
      generalize ch d k * ch (L - d) (S - k) = r at *
      rw [wrapF_i64 (x := (r : Int)) (by omega) (by omega), wrapF_i64 (by omega) (by omega)]
      omega
    have : ∀ n, n ≤ a + 1 → (List.range n).foldl (accStep (L : Int) (S : Int) (d : Int)) 0 = (psum (fun k => ch d k * ch (L - d) (S - k)) n : Int) := by
      intro n
      induction n with
      | zero => intro _; rfl
      | succ n ih =>
        intro hn
        rw [List.range_succ, List.foldl_append, ih (by omega), List.foldl_cons, List.foldl_nil]
        exact hstep n (by omega)
    exact this (a + 1) (Nat.le_refl _)

/-- what a plan without errors is -/
theorem plan_ok {L S A : Int} (h : planE L S A = 0) : ∃ l s a : Nat, L = l ∧ S = s ∧ A = a ∧ 1 ≤ l ∧ l ≤ 30 ∧ 1 ≤ s ∧ s ≤ l ∧ a < s := by
  unfold planE at h
  have h1 := checkRange_zero (firstNZ_zero h _ (List.mem_cons_self ..))
  have h2 := checkRange_zero (firstNZ_zero h _ (List.mem_cons_of_mem _ (List.mem_cons_self ..)))
  have h3 := checkRange_zero (firstNZ_zero h _ (List.mem_cons_of_mem _ (List.mem_cons_of_mem _ (List.mem_cons_self ..))))
  rw [wrapF_i64 (by omega) (by omega)] at h3
  exact ⟨L.toNat, S.toNat, A.toNat, by omega, by omega, by omega, by omega, by omega, by omega, by omega, by omega⟩

end Go.Z
