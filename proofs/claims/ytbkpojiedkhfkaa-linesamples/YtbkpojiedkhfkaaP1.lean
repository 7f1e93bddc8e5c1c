/-
  Plans: numbers of ways, and the checks: the runs.
-/
import Derived.Test.YtbkpojiedkhfkaaL14
import Derived.Test.YtbkpojiedkhfkaaAbsH
import Derived.KernelRfl
set_option linter.unusedVariables false
set_option linter.unusedSimpArgs false
set_option maxRecDepth 100000
set_option linter.unusedSimpArgs false
namespace Go.Z
open Go Go.Abs
theorem range_at {n i t : Nat} (h : (List.range n)[i]? = some t) : t = i ∧ i < n := by
  obtain ⟨h1, h2⟩ := List.getElem?_eq_some_iff.1 h
  rw [List.length_range] at h1
  exact ⟨by simpa using h2.symm, h1⟩
def stepBin (n : Int) (out : Int) (i : Nat) : Int := wrapF .i64 ((wrapF .i64 (out * wrapF .i64 (n - (i : Int)))).tdiv ((i + 1 : Nat) : Int))
def loopBin (n : Int) (k : Nat) : Int := (List.range k).foldl (stepBin n) 1
def binI (n k : Int) : Int := if k < 0 then 0 else if n < k then 0 else loopBin n k.toNat
def planE (L S A : Int) : Int := firstNZ [checkRange L 1 30, checkRange S 1 L, checkRange A 0 (wrapF .i64 (S - 1))]
end Go.Z
/-
  Plans: acceptance: the runs.
-/
set_option maxRecDepth 100000
set_option linter.unusedSimpArgs false
namespace Go.Z
open Go Go.Abs
def accStep (L S d s : Int) (k : Nat) : Int := wrapF .i64 (s + wrapF .i64 (binI d (k : Int) * binI (wrapF .i64 (L - d)) (wrapF .i64 (S - (k : Int)))))
def accI (L S d : Int) (a : Nat) : Int := (List.range (a + 1)).foldl (accStep L S d) 0
end Go.Z
/-
  Binomials: that the numbers of ways are Pascal's, and Vandermonde's sum.
-/
set_option maxRecDepth 100000
set_option linter.unusedSimpArgs false
namespace Go.Z
open Go Go.Abs
def ch : Nat → Nat → Nat
  | _, 0 => 1
  | 0, _ + 1 => 0
  | n + 1, k + 1 => ch n k + ch n (k + 1)
def conv (f g : Nat → Nat) : Nat → Nat
  | 0 => f 0 * g 0
  | s + 1 => f 0 * g (s + 1) + conv (fun k => f (k + 1)) g s
theorem conv_add (g : Nat → Nat) : ∀ (s : Nat) (f f' : Nat → Nat), conv (fun k => f k + f' k) g s = conv f g s + conv f' g s
  | 0, f, f' => by simp only [conv, Nat.add_mul]
  | s + 1, f, f' => by
    simp only [conv, Nat.add_mul]
    rw [conv_add g s (fun k => f (k + 1)) (fun k => f' (k + 1))]
    omega
theorem conv_zero (g : Nat → Nat) : ∀ (s : Nat), conv (fun _ => 0) g s = 0
  | 0 => by simp [conv]
  | s + 1 => by simp only [conv]; rw [conv_zero g s]; simp
theorem ch_zero (n : Nat) : ch n 0 = 1 := by cases n <;> rfl
theorem vandermonde (m : Nat) : ∀ (d s : Nat), conv (ch d) (ch m) s = ch (d + m) s
  | 0, s => by
    rw [Nat.zero_add]
    cases s with
    | zero => simp [conv, ch_zero]
    | succ s =>
      simp only [conv]
      rw [show (fun k => ch 0 (k + 1)) = fun _ => 0 from by funext k; rfl, conv_zero]
      simp [ch_zero]
  | d + 1, 0 => by simp [conv, ch_zero]
  | d + 1, s + 1 => by
    have h1 := vandermonde m d s
    have h2 := vandermonde m d (s + 1)
    simp only [conv, ch_zero, Nat.one_mul] at h2 ⊢
    rw [show (fun k => ch (d + 1) (k + 1)) = fun k => ch d k + ch d (k + 1) from by funext k; rfl, conv_add]
    rw [show d + 1 + m = (d + m) + 1 by omega]
    show _ = ch (d + m) s + ch (d + m) (s + 1)
    rw [h1] at *
    omega
def psum (f : Nat → Nat) : Nat → Nat
  | 0 => 0
  | n + 1 => psum f n + f n
theorem psum_mono {f : Nat → Nat} {a b : Nat} (h : a ≤ b) : psum f a ≤ psum f b := by
  induction b with
  | zero => rw [Nat.le_zero.1 h]; exact Nat.le_refl _
  | succ b ih =>
    by_cases hb : a ≤ b
    · simp only [psum]; have := ih hb; omega
    · rw [show a = b + 1 by omega]; exact Nat.le_refl _
theorem psum_front (f : Nat → Nat) : ∀ n, psum f (n + 1) = f 0 + psum (fun k => f (k + 1)) n
  | 0 => by simp [psum]
  | n + 1 => by
    rw [psum, psum_front f n]
    simp only [psum]
    omega
theorem psum_conv (g : Nat → Nat) : ∀ (s : Nat) (f : Nat → Nat), psum (fun k => f k * g (s - k)) (s + 1) = conv f g s
  | 0, f => by simp [psum, conv]
  | s + 1, f => by
    rw [psum_front]
    simp only [conv]
    rw [← psum_conv g s (fun k => f (k + 1))]
    congr 1
    congr 1
    funext k
    rw [show s + 1 - (k + 1) = s - k by omega]
def nextRow : List Nat → List Nat
  | [] => []
  | [a] => [a]
  | a :: b :: l => (a + b) :: nextRow (b :: l)
def row : Nat → List Nat
  | 0 => [1]
  | n + 1 => 1 :: nextRow (row n)
theorem nextRow_at : ∀ (l : List Nat) (k : Nat), (nextRow l).getD k 0 = l.getD k 0 + l.getD (k + 1) 0
  | [], k => by simp [nextRow]
  | [a], k => by cases k <;> simp [nextRow]
  | a :: b :: l, 0 => by simp [nextRow]
  | a :: b :: l, k + 1 => by
    have := nextRow_at (b :: l) k
    simpa [nextRow] using this
theorem row_at : ∀ (n k : Nat), (row n).getD k 0 = ch n k
  | 0, 0 => rfl
  | 0, k + 1 => by simp [row, ch]
  | n + 1, 0 => by simp [row, ch]
  | n + 1, k + 1 => by
    have h1 := row_at n k
    have h2 := row_at n (k + 1)
    show (1 :: nextRow (row n)).getD (k + 1) 0 = ch n k + ch n (k + 1)
    rw [← h1, ← h2, ← nextRow_at]
    simp
def binOk : Bool := (List.range 31).all fun n => (List.range 31).all fun k => eqInt (binI (n : Int) (k : Int)) (((row n).getD k 0 : Nat) : Int)
theorem binOk_true : binOk = true := by kernel_rfl
theorem binI_ch {n k : Nat} (hn : n ≤ 30) (hk : k ≤ 30) : binI (n : Int) (k : Int) = (ch n k : Int) := by
  have h := binOk_true
  unfold binOk at h
  have h1 := List.all_eq_true.1 h n (List.mem_range.2 (by omega))
  have h2 := List.all_eq_true.1 h1 k (List.mem_range.2 (by omega))
  rw [eqInt_sound h2, row_at]
end Go.Z
/-
  Acceptance in numbers; risks: the runs.
-/
set_option maxRecDepth 100000
set_option linter.unusedSimpArgs false
namespace Go.Z
open Go Go.Abs
def chOk : Bool := (List.range 31).all fun n => (List.range 31).all fun k => Nat.ble ((row n).getD k 0) 1073741824
theorem chOk_true : chOk = true := by kernel_rfl
theorem ch_le {n k : Nat} (hn : n ≤ 30) (hk : k ≤ 30) : ch n k ≤ 1073741824 := by
  have h := chOk_true
  unfold chOk at h
  have h1 := List.all_eq_true.1 h n (List.mem_range.2 (by omega))
  have h2 := List.all_eq_true.1 h1 k (List.mem_range.2 (by omega))
  rw [← row_at]
  exact Nat.le_of_ble_eq_true h2
def accN (L S d a : Nat) : Nat := psum (fun k => ch d k * ch (L - d) (S - k)) (a + 1)
theorem accN_le {L S d a : Nat} (hd : d ≤ L) (ha : a ≤ S) : accN L S d a ≤ ch L S := by
  unfold accN
  have h1 : psum (fun k => ch d k * ch (L - d) (S - k)) (a + 1) ≤ psum (fun k => ch d k * ch (L - d) (S - k)) (S + 1) := psum_mono (by omega)
  rw [psum_conv (ch (L - d)) S (ch d), vandermonde, show d + (L - d) = L by omega] at h1
  exact h1
theorem accI_eq {L S d : Nat} (hL : L ≤ 30) (hS : S ≤ L) (hd : d ≤ L) : ∀ a, a ≤ S → accI (L : Int) (S : Int) (d : Int) a = (accN L S d a : Int)
  | a, ha => by
    have hstep : ∀ k, k ≤ a → accStep (L : Int) (S : Int) (d : Int) (psum (fun k => ch d k * ch (L - d) (S - k)) k : Int) k = (psum (fun k => ch d k * ch (L - d) (S - k)) (k + 1) : Int) := by
      intro k hk
      have hb := accN_le (L := L) (S := S) (d := d) (a := k) hd (by omega)
      have hc := ch_le (n := L) (k := S) hL (by omega)
      unfold accN at hb
      have h1 : wrapF .i64 ((L : Int) - (d : Int)) = ((L - d : Nat) : Int) := by rw [wrapF_i64 (by omega) (by omega)]; omega
      have h2 : wrapF .i64 ((S : Int) - (k : Int)) = ((S - k : Nat) : Int) := by rw [wrapF_i64 (by omega) (by omega)]; omega
      have h3 := binI_ch (n := d) (k := k) (by omega) (by omega)
      have h4 := binI_ch (n := L - d) (k := S - k) (by omega) (by omega)
      unfold accStep
      rw [h1, h2, h3, h4]
      simp only [psum] at hb ⊢
      generalize psum (fun k => ch d k * ch (L - d) (S - k)) k = q at *
      have hm : (ch d k : Int) * (ch (L - d) (S - k) : Int) = ((ch d k * ch (L - d) (S - k) : Nat) : Int) := (Int.natCast_mul _ _).symm
      rw [hm]
      generalize ch d k * ch (L - d) (S - k) = r at *
      rw [wrapF_i64 (x := (r : Int)) (by omega) (by omega), wrapF_i64 (by omega) (by omega)]
      omega
    have : ∀ n, n ≤ a + 1 → (List.range n).foldl (accStep (L : Int) (S : Int) (d : Int)) 0 = (psum (fun k => ch d k * ch (L - d) (S - k)) n : Int) := by
      intro n
      induction n with
      | zero => intro _; rfl
      | succ n ih =>
        intro hn
        rw [List.range_succ, List.foldl_append, ih (by omega), List.foldl_cons, List.foldl_nil]
        exact hstep n (by omega)
    exact this (a + 1) (Nat.le_refl _)
theorem plan_ok {L S A : Int} (h : planE L S A = 0) : ∃ l s a : Nat, L = l ∧ S = s ∧ A = a ∧ 1 ≤ l ∧ l ≤ 30 ∧ 1 ≤ s ∧ s ≤ l ∧ a < s := by
  unfold planE at h
  have h1 := checkRange_zero (firstNZ_zero h _ (List.mem_cons_self ..))
  have h2 := checkRange_zero (firstNZ_zero h _ (List.mem_cons_of_mem _ (List.mem_cons_self ..)))
  have h3 := checkRange_zero (firstNZ_zero h _ (List.mem_cons_of_mem _ (List.mem_cons_of_mem _ (List.mem_cons_self ..))))
  rw [wrapF_i64 (by omega) (by omega)] at h3
  exact ⟨L.toNat, S.toNat, A.toNat, by omega, by omega, by omega, by omega, by omega, by omega, by omega, by omega⟩
end Go.Z
/-
  Acceptance and risks, both: the runs.
-/
set_option maxRecDepth 100000
set_option linter.unusedSimpArgs false
namespace Go.Z
open Go Go.Abs
theorem ratN_eq {n t : Nat} (h : n ≤ 1073741824) : ratN n t = ((n / Nat.gcd t n : Nat) : Int) := by
  unfold ratN
  rw [show (n : Int).tdiv (Nat.gcd t n : Int) = ((n / Nat.gcd t n : Nat) : Int) from Int.ofNat_tdiv _ _]
  have := Nat.div_le_self n (Nat.gcd t n)
  generalize n / Nat.gcd t n = q at *
  exact wrapF_i64 (by omega) (by omega)
theorem ratD_eq {n t : Nat} (h : t ≤ 1073741824) : ratD n t = ((t / Nat.gcd t n : Nat) : Int) := by
  unfold ratD
  rw [show (t : Int).tdiv (Nat.gcd t n : Int) = ((t / Nat.gcd t n : Nat) : Int) from Int.ofNat_tdiv _ _]
  have := Nat.div_le_self t (Nat.gcd t n)
  generalize t / Nat.gcd t n = q at *
  exact wrapF_i64 (by omega) (by omega)
end Go.Z
/-
  Risks of the product, with errors; decisions: the runs.
-/
set_option maxRecDepth 100000
set_option linter.unusedSimpArgs false
namespace Go.Z
open Go Go.Abs
end Go.Z
/-
  Decisions, both: the runs.
-/
set_option maxRecDepth 100000
set_option linter.unusedSimpArgs false
namespace Go.Z
open Go Go.Abs
def vbool (b : Bool) : AVal := .bool b
@[go_sem] theorem loadR_vbool {h0 : Nat} {al : Option (List Nat)} {h : Heap} {b : Bool} : loadR h0 al false 1 h (some (.vptr (vbool b))) = some ⟨.bool b, false, none, h⟩ := rfl
@[go_sem] theorem below_bools {n z : Nat} {l : Option (List Bool)} : below n (sl z vbool l) = true := below_sl fun _ => rfl
def badN (bad : Nat) (f : Bool) : Nat := if f = true then bad + 1 else bad
def stepDec (S A : Int) (i : Nat) (bad : Nat) (f : Bool) : Nat ⊕ (Bool × Nat) :=
  if A < (badN bad f : Int) then .inr (false, i + 1) else if S - ((i : Int) + 1 - (badN bad f : Int)) ≤ A then .inr (true, i + 1) else .inl (badN bad f)
def decR (S A : Int) (l : List Bool) : Bool × Int × Int := match runL (stepDec S A) 0 0 l with
  | .inl _ => (false, 0, 7)
  | .inr (b, n) => (b, (n : Int), 0)
end Go.Z
/-
  Decisions, with errors: the runs.
-/
set_option maxRecDepth 100000
set_option linter.unusedSimpArgs false
namespace Go.Z
open Go Go.Abs
end Go.Z
