/-
  LineSamples: what is looked at sample by sample: finite checks by the kernel.
-/
import Derived.Test.YtbkpojiedkhfkaaY3
import Derived.KernelRfl
set_option linter.unusedVariables false
set_option linter.unusedSimpArgs false
set_option maxRecDepth 100000
set_option linter.unusedSimpArgs false
set_option linter.unusedVariables false
namespace Go.Z
open Go Go.Abs
def cntT : List Bool → Nat
  | [] => 0
  | true :: l => cntT l + 1
  | false :: l => cntT l
def allB : Nat → List (List Bool)
  | 0 => [[]]
  | n + 1 => (allB n).flatMap fun l => [true :: l, false :: l]
theorem allB_mem : ∀ l : List Bool, l ∈ allB l.length
  | [] => by simp [allB]
  | b :: l => by
    have := allB_mem l
    simp only [List.length_cons, allB, List.mem_flatMap]
    exact ⟨l, this, by cases b <;> simp⟩
def decGood (s a : Nat) (l : List Bool) : Bool :=
  match decR (s : Int) (a : Int) l with
  | (yes, at_, e) => decide (e = 0) && (yes == decide (cntT l ≤ a)) && decide (1 ≤ at_) && decide (at_ ≤ (s : Int)) &&
    (match decR (s : Int) (a : Int) (l.take at_.toNat) with | (y2, n2, e2) => decide (e2 = 0) && (y2 == yes) && decide (n2 = at_)) &&
    (match decR (s : Int) (a : Int) (l.take (at_.toNat - 1)) with | (_, _, e3) => decide (e3 = 7))
def decAll : Bool := (List.range 9).all fun s => (List.range s).all fun a => (allB s).all (decGood s a)
theorem decAll_true : decAll = true := by kernel_rfl
theorem dec_good {s a : Nat} (h8 : s ≤ 8) (ha : a < s) {l : List Bool} (hl : l.length = s) : decGood s a l = true := by
  have := List.all_eq_true.1 (List.all_eq_true.1 (List.all_eq_true.1 decAll_true s (List.mem_range.2 (by omega))) a (List.mem_range.2 ha)) l (by rw [← hl]; exact allB_mem l)
  exact this
def bitN (set i : Nat) : Bool := Nat.beq ((set >>> i) % 2) 1
def drawn (l d set : Nat) : List Bool := ((List.range l).filter (bitN set)).map fun i => Nat.blt i d
def pairOf (l d set : Nat) : Nat × Nat := ((drawn l d set).length, cntT (drawn l d set))
def countAll (ps : List (Nat × Nat)) (s : Nat) : Nat := ps.foldl (fun n p => if Nat.beq p.1 s then n + 1 else n) 0
def countGood (ps : List (Nat × Nat)) (s a : Nat) : Nat := ps.foldl (fun n p => if Nat.beq p.1 s then (if Nat.ble p.2 a then n + 1 else n) else n) 0
def numA (l s a d : Nat) : Nat := accN l s d a / Nat.gcd (ch l s) (accN l s d a)
def denA (l s a d : Nat) : Nat := ch l s / Nat.gcd (ch l s) (accN l s d a)
def chT (n k : Nat) : Nat := (row n).getD k 0
def accT (l s d a : Nat) : Nat := psum (fun k => chT d k * chT (l - d) (s - k)) (a + 1)
def numT (l s a d : Nat) : Nat := accT l s d a / Nat.gcd (chT l s) (accT l s d a)
def denT (l s a d : Nat) : Nat := chT l s / Nat.gcd (chT l s) (accT l s d a)
theorem accT_eq (l s d a : Nat) : accT l s d a = accN l s d a := by unfold accT accN chT; simp only [row_at]
theorem numT_eq (l s a d : Nat) : numT l s a d = numA l s a d := by unfold numT numA; rw [accT_eq]; unfold chT; rw [row_at]
theorem denT_eq (l s a d : Nat) : denT l s a d = denA l s a d := by unfold denT denA; rw [accT_eq]; unfold chT; rw [row_at]
def numsOk (l s a d : Nat) (ps : List (Nat × Nat)) : Bool :=
  let x := numT l s a d; let y := denT l s a d
  Nat.ble 1 y && Nat.ble x y && Nat.ble y 1000 && Nat.beq (countGood ps s a * y) (x * countAll ps s) &&
  (Nat.ble l d || (Nat.ble 1 (denT l s a (d + 1)) && Nat.ble (denT l s a (d + 1)) 1000 && Nat.ble (numT l s a (d + 1) * y) (x * denT l s a (d + 1)))) &&
  (Nat.ble s (a + 1) || (Nat.ble 1 (denT l s (a + 1) d) && Nat.ble (denT l s (a + 1) d) 1000 && Nat.ble (numT l s (a + 1) d) (denT l s (a + 1) d) && Nat.ble (x * denT l s (a + 1) d) (numT l s (a + 1) d * y)))
def pairsOf (l d : Nat) : List (Nat × Nat) := (List.range (2 ^ l)).map (pairOf l d)
def numsAll : Bool := (List.range 9).all fun l => (List.range (l + 1)).all fun d =>
  (fun ps => (List.range (l + 1)).all fun s => (List.range s).all fun a => numsOk l s a d ps) (pairsOf l d)
theorem numsAll_true : numsAll = true := by kernel_rfl
theorem nums_ok {l s a d : Nat} (h : POk l s a) (hd : d ≤ l) : numsOk l s a d (pairsOf l d) = true :=
  List.all_eq_true.1 (List.all_eq_true.1 (List.all_eq_true.1 (List.all_eq_true.1 numsAll_true l (List.mem_range.2 (by have := h.l8; omega))) d (List.mem_range.2 (by omega))) s (List.mem_range.2 (by have := h.sl; omega))) a (List.mem_range.2 h.a1)
def bitsOk : Bool := (List.range 256).all fun set => (List.range 8).all fun i =>
  match shrO .i64 (set : Int) (i : Int) with
  | some v => (bitF .and .i64 v 1 == 1) == bitN set i
  | none => false
theorem bitsOk_true : bitsOk = true := by kernel_rfl
theorem bit_at {set i : Nat} (h1 : set < 256) (h2 : i < 8) : ∃ v, shrO .i64 (set : Int) (i : Int) = some v ∧ decide (bitF .and .i64 v 1 = 1) = bitN set i := by
  have h := List.all_eq_true.1 (List.all_eq_true.1 bitsOk_true set (List.mem_range.2 h1)) i (List.mem_range.2 h2)
  cases hs : shrO .i64 (set : Int) (i : Int) with
  | none => rw [hs] at h; cases h
  | some v =>
    rw [hs] at h
    refine ⟨v, rfl, ?_⟩
    simp only [beq_iff_eq] at h
    rw [← h]
    by_cases hb : bitF .and .i64 v 1 = 1 <;> simp [hb]
end Go.Z
