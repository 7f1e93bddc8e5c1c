/-
  Binomials: that the numbers of ways are Pascal's, and Vandermonde's sum.
-/
import Derived.Test.YtbkpojiedkhfkaaGreatP2
import Derived.Test.YtbkpojiedkhfkaaGreatAbsH
import Derived.KernelRfl

set_option linter.unusedVariables false
set_option linter.unusedSimpArgs false

set_option maxRecDepth 100000
set_option linter.unusedSimpArgs false
namespace Go.Z
open Go Go.Abs

def ch : Nat → Nat → Nat
  | _, 0 => 1
  | 0, _ + 1 => 0
  | n + 1, k + 1 => ch n k + ch n (k + 1)
def conv (f g : Nat → Nat) : Nat → Nat
  | 0 => f 0 * g 0
  | s + 1 => f 0 * g (s + 1) + conv (fun k => f (k + 1)) g s
theorem conv_add (g : Nat → Nat) : ∀ (s : Nat) (f f' : Nat → Nat), conv (fun k => f k + f' k) g s = conv f g s + conv f' g s
  | 0, f, f' => by simp only [conv, Nat.add_mul]
  | s + 1, f, f' => by
    simp only [conv, Nat.add_mul]
    rw [conv_add g s (fun k => f (k + 1)) (fun k => f' (k + 1))]
    omega
theorem conv_zero (g : Nat → Nat) : ∀ (s : Nat), conv (fun _ => 0) g s = 0
  | 0 => by simp [conv]
  | s + 1 => by simp only [conv]; rw [conv_zero g s]; simp
theorem ch_zero (n : Nat) : ch n 0 = 1 := by cases n <;> rfl
theorem vandermonde (m : Nat) : ∀ (d s : Nat), conv (ch d) (ch m) s = ch (d + m) s
  | 0, s => by
    rw [Nat.zero_add]
    cases s with
    | zero => simp [conv, ch_zero]
    | succ s =>
      simp only [conv]
      rw [show (fun k => ch 0 (k + 1)) = fun _ => 0 from by funext k; rfl, conv_zero]
      simp [ch_zero]
  | d + 1, 0 => by simp [conv, ch_zero]
  | d + 1, s + 1 => by
    have h1 := vandermonde m d s
    have h2 := vandermonde m d (s + 1)
    simp only [conv, ch_zero, Nat.one_mul] at h2 ⊢
    rw [show (fun k => ch (d + 1) (k + 1)) = fun k => ch d k + ch d (k + 1) from by funext k; rfl, conv_add]
    rw [show d + 1 + m = (d + m) + 1 by omega]
    show _ = ch (d + m) s + ch (d + m) (s + 1)
    rw [h1] at *
    omega

/-- a sum from the left -/
def psum (f : Nat → Nat) : Nat → Nat
  | 0 => 0
  | n + 1 => psum f n + f n
theorem psum_mono {f : Nat → Nat} {a b : Nat} (h : a ≤ b) : psum f a ≤ psum f b := by
  induction b with
  | zero => rw [Nat.le_zero.1 h]; exact Nat.le_refl _
  | succ b ih =>
    by_cases hb : a ≤ b
    · simp only [psum]; have := ih hb; omega
    · rw [show a = b + 1 by omega]; exact Nat.le_refl _
theorem psum_front (f : Nat → Nat) : ∀ n, psum f (n + 1) = f 0 + psum (fun k => f (k + 1)) n
  | 0 => by simp [psum]
  | n + 1 => by
    rw [psum, psum_front f n]
    simp only [psum]
    omega
theorem psum_conv (g : Nat → Nat) : ∀ (s : Nat) (f : Nat → Nat), psum (fun k => f k * g (s - k)) (s + 1) = conv f g s
  | 0, f => by simp [psum, conv]
  | s + 1, f => by
    rw [psum_front]
    simp only [conv]
    rw [← psum_conv g s (fun k => f (k + 1))]
    congr 1
    congr 1
    funext k
    rw [show s + 1 - (k + 1) = s - k by omega]

/-! ### The numbers of ways are Pascal's, up to 30 -/
def nextRow : List Nat → List Nat
  | [] => []
  | [a] => [a]
  | a :: b :: l => (a + b) :: nextRow (b :: l)
def row : Nat → List Nat
  | 0 => [1]
  | n + 1 => 1 :: nextRow (row n)
theorem nextRow_at : ∀ (l : List Nat) (k : Nat), (nextRow l).getD k 0 = l.getD k 0 + l.getD (k + 1) 0
  | [], k => by simp [nextRow]
  | [a], k => by cases k <;> simp [nextRow]
  | a :: b :: l, 0 => by simp [nextRow]
  | a :: b :: l, k + 1 => by
    have := nextRow_at (b :: l) k
    simpa [nextRow] using this
theorem row_at : ∀ (n k : Nat), (row n).getD k 0 = ch n k
  | 0, 0 => rfl
  | 0, k + 1 => by simp [row, ch]
  | n + 1, 0 => by simp [row, ch]
  | n + 1, k + 1 => by
    have h1 := row_at n k
    have h2 := row_at n (k + 1)
    show (1 :: nextRow (row n)).getD (k + 1) 0 = ch n k + ch n (k + 1)
    rw [← h1, ← h2, ← nextRow_at]
    simp
def binOk : Bool := (List.range 31).all fun n => (List.range 31).all fun k => eqInt (binI (n : Int) (k : Int)) (((row n).getD k 0 : Nat) : Int)
theorem binOk_true : binOk = true := by kernel_rfl
theorem binI_ch {n k : Nat} (hn : n ≤ 30) (hk : k ≤ 30) : binI (n : Int) (k : Int) = (ch n k : Int) := by
  have h := binOk_true
  unfold binOk at h
  have h1 := List.all_eq_true.1 h n (List.mem_range.2 (by omega))
  have h2 := List.all_eq_true.1 h1 k (List.mem_range.2 (by omega))
  rw [eqInt_sound h2, row_at]

end Go.Z
