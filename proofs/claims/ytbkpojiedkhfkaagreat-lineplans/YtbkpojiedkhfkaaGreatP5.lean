/-
  Acceptance and risks, both: the runs.
-/
import Derived.Test.YtbkpojiedkhfkaaGreatP4

set_option linter.unusedVariables false
set_option linter.unusedSimpArgs false

set_option maxRecDepth 100000
set_option linter.unusedSimpArgs false
namespace Go.Z
open Go Go.Abs

/-- a plan that passes its check, in natural numbers -/
structure PlanN (l s a : Nat) : Prop where
  l1 : 1 ≤ l
  l2 : l ≤ 30
  s1 : 1 ≤ s
  s2 : s ≤ l
  a1 : a < s

theorem I47 {l s a d : Nat} (h : PlanN l s a) (hd : d ≤ l) : callIso pr (X pr) 47 [.agg [.int .i64 (l : Int), .int .i64 (s : Int), .int .i64 (a : Int)], .int .i64 (d : Int)] = some (.agg [.int .i64 (ratN (accN l s d a) (ch l s)), .int .i64 (ratD (accN l s d a) (ch l s))], false) := by
  obtain ⟨l1, l2, s1, s2, a1⟩ := h
  have hl := l47 (l : Int) (s : Int) (d : Int) a (.cells [(.int .i64 0, false), (.int .i64 0, false)]) (by omega) (by omega) (by omega)
  simp only [pBox] at hl
  rw [accI_eq l2 s2 hd a (by omega)] at hl
  have h107 := I107 (l : Int) (s : Int) (by omega)
  rw [binI_ch l2 (by omega)] at h107
  have h102 := I102 (accN l s d a) (ch l s) (ch_pos l s s2) (by have := accN_le (L := l) (S := s) (d := d) (a := a) hd (by omega); have := ch_le (n := l) (k := s) l2 (by omega); omega)
  have : ∃ hh, callFn pr (X pr) 47 [.agg [.int .i64 (l : Int), .int .i64 (s : Int), .int .i64 (a : Int)], .int .i64 (d : Int)] [] = some (.agg [.int .i64 (ratN (accN l s d a) (ch l s)), .int .i64 (ratD (accN l s d a) (ch l s))], false, hh) := by
    rw [callFn_at (show pr.fns 47 = some c47 from rfl) (by simp)]
    simp only [go_sem, c47, hl, h107, h102, reduceIte, Nat.reduceEqDiff, Nat.reduceAdd, Nat.reduceSub, Nat.reduceLT, Nat.reduceLeDiff, Nat.reduceMul, Int.reduceLT, Int.reduceLE, Int.reduceEq, Int.reduceNe, Int.reduceAdd, Int.reduceSub, Int.reduceNeg, Int.reduceMul]
    exact ⟨_, rfl⟩
  obtain ⟨hh, this⟩ := this
  exact callIso_of rfl this rfl rfl

def accE (L S A d : Int) : Int := firstNZ [planE L S A, checkRange d 0 L]
/-- the product's acceptance, of a plan and a number of defects without errors -/
theorem I42ok {l s a d : Nat} (h : PlanN l s a) (hd : d ≤ l) (hp : planE (l : Int) (s : Int) (a : Int) = 0) (hr : checkRange (d : Int) 0 (l : Int) = 0) :
    callIso pr (X pr) 42 [.agg [.int .i64 (l : Int), .int .i64 (s : Int), .int .i64 (a : Int)], .int .i64 (d : Int)] = some (.tup [.agg [.int .i64 (ratN (accN l s d a) (ch l s)), .int .i64 (ratD (accN l s d a) (ch l s))], .int .i64 0], false) := by
  obtain ⟨l1, l2, s1, s2, a1⟩ := h
  have h103 := I103 (l : Int) (s : Int) (d : Int) a (by omega) (by omega) (by omega)
  rw [accI_eq l2 s2 hd a (by omega)] at h103
  have h104 := I104 (l : Int) (s : Int) (a : Int) (by omega)
  rw [binI_ch l2 (by omega)] at h104
  have h101 := I101 (accN l s d a) (ch l s) (ch_pos l s s2)
  have : ∃ hh, callFn pr (X pr) 42 [.agg [.int .i64 (l : Int), .int .i64 (s : Int), .int .i64 (a : Int)], .int .i64 (d : Int)] [] = some (.tup [.agg [.int .i64 (ratN (accN l s d a) (ch l s)), .int .i64 (ratD (accN l s d a) (ch l s))], .int .i64 0], false, hh) := by
    rw [callFn_at (show pr.fns 42 = some c42 from rfl) (by simp)]
    simp only [go_sem, c42, I50, hp, I88, hr, h103, h104, h101, reduceIte, Nat.reduceEqDiff, Nat.reduceAdd, Nat.reduceSub, Nat.reduceLT, Nat.reduceLeDiff, Nat.reduceMul, Int.reduceLT, Int.reduceLE, Int.reduceEq, Int.reduceNe, Int.reduceAdd, Int.reduceSub, Int.reduceNeg, Int.reduceMul]
    exact ⟨_, rfl⟩
  obtain ⟨hh, this⟩ := this
  exact callIso_of rfl this rfl rfl
theorem I42e (L S A d : Int) (hz : ¬ accE L S A d = 0) : callIso pr (X pr) 42 [.agg [.int .i64 L, .int .i64 S, .int .i64 A], .int .i64 d] = some (.tup [.agg [.int .i64 0, .int .i64 0], .int .i64 (accE L S A d)], false) := by
  have : ∃ hh, callFn pr (X pr) 42 [.agg [.int .i64 L, .int .i64 S, .int .i64 A], .int .i64 d] [] = some (.tup [.agg [.int .i64 0, .int .i64 0], .int .i64 (accE L S A d)], false, hh) := by
    rw [callFn_at (show pr.fns 42 = some c42 from rfl) (by simp)]
    by_cases hp : planE L S A = 0
    · have he : accE L S A d = checkRange d 0 L := by
        unfold accE; simp only [firstNZ, hp, if_true]; split <;> simp_all
      rw [he] at hz ⊢
      simp only [go_sem, c42, I50, hp, I88, hz, reduceIte, Nat.reduceEqDiff, Nat.reduceAdd, Nat.reduceSub, Nat.reduceLT, Nat.reduceLeDiff, Nat.reduceMul, Int.reduceLT, Int.reduceLE, Int.reduceEq, Int.reduceNe, Int.reduceAdd, Int.reduceSub, Int.reduceNeg, Int.reduceMul]
      exact ⟨_, rfl⟩
    · have he : accE L S A d = planE L S A := by unfold accE; simp only [firstNZ, if_neg hp]
      rw [he]
      simp only [go_sem, c42, I50, hp, reduceIte, Nat.reduceEqDiff, Nat.reduceAdd, Nat.reduceSub, Nat.reduceLT, Nat.reduceLeDiff, Nat.reduceMul, Int.reduceLT, Int.reduceLE, Int.reduceEq, Int.reduceNe, Int.reduceAdd, Int.reduceSub, Int.reduceNeg, Int.reduceMul]
      exact ⟨_, rfl⟩
  obtain ⟨hh, this⟩ := this
  exact callIso_of rfl this rfl rfl

/-! ### Risks -/
theorem gcd_rest {n t : Nat} (h : n ≤ t) : Nat.gcd t (t - n) = Nat.gcd t n := by
  rw [Nat.gcd_comm, Nat.gcd_comm t n]
  have h1 : Nat.gcd (t - n) t = Nat.gcd (t - n) n := by
    have : t = n + (t - n) := by omega
    conv => lhs; rw [this]
    rw [show n + (t - n) - n = t - n by omega, Nat.gcd_add_self_right]
  have h2 : Nat.gcd n t = Nat.gcd n (t - n) := by
    have : t = (t - n) + n := by omega
    conv => lhs; rw [this]
    rw [Nat.gcd_add_self_right]
  rw [h1, h2, Nat.gcd_comm]
theorem ratN_eq {n t : Nat} (h : n ≤ 1073741824) : ratN n t = ((n / Nat.gcd t n : Nat) : Int) := by
  unfold ratN
  rw [show (n : Int).tdiv (Nat.gcd t n : Int) = ((n / Nat.gcd t n : Nat) : Int) from Int.ofNat_tdiv _ _]
  have := Nat.div_le_self n (Nat.gcd t n)
  generalize n / Nat.gcd t n = q at *
  exact wrapF_i64 (by omega) (by omega)
theorem ratD_eq {n t : Nat} (h : t ≤ 1073741824) : ratD n t = ((t / Nat.gcd t n : Nat) : Int) := by
  unfold ratD
  rw [show (t : Int).tdiv (Nat.gcd t n : Int) = ((t / Nat.gcd t n : Nat) : Int) from Int.ofNat_tdiv _ _]
  have := Nat.div_le_self t (Nat.gcd t n)
  generalize t / Nat.gcd t n = q at *
  exact wrapF_i64 (by omega) (by omega)
theorem rat_rest {n t : Nat} (h : n ≤ t) (ht : t ≤ 1073741824) (hpos : 0 < t) : wrapF .i64 (ratD n t - ratN n t) = ratN (t - n) t ∧ ratD n t = ratD (t - n) t := by
  rw [ratN_eq (n := n) (by omega), ratD_eq (n := n) ht, ratN_eq (n := t - n) (by omega), ratD_eq (n := t - n) ht, gcd_rest h]
  have hg : 0 < Nat.gcd t n := Nat.gcd_pos_of_pos_left n hpos
  obtain ⟨x, hx⟩ := Nat.gcd_dvd_left t n
  obtain ⟨y, hy⟩ := Nat.gcd_dvd_right t n
  have e1 : t / Nat.gcd t n = x := by conv => lhs; lhs; rw [hx]
                                      exact Nat.mul_div_cancel_left x hg
  have e2 : n / Nat.gcd t n = y := by conv => lhs; lhs; rw [hy]
                                      exact Nat.mul_div_cancel_left y hg
  have e3 : (t - n) / Nat.gcd t n = x - y := by
    have : t - n = Nat.gcd t n * (x - y) := by
      rw [Nat.mul_sub, ← hx, ← hy]
    rw [this, Nat.mul_div_cancel_left _ hg]
  have hle : n / Nat.gcd t n ≤ t / Nat.gcd t n := Nat.div_le_div_right h
  have hxt : t / Nat.gcd t n ≤ t := Nat.div_le_self _ _
  rw [e3, ← e1, ← e2]
  refine ⟨?_, rfl⟩
  generalize n / Nat.gcd t n = q at *
  generalize t / Nat.gcd t n = r at *
  rw [wrapF_i64 (by omega) (by omega)]
  omega

theorem I48 {l s a g b : Nat} (h : PlanN l s a) (hg : g ≤ l) (hb : b ≤ l) : callIso pr (X pr) 48 [.agg [.int .i64 (l : Int), .int .i64 (s : Int), .int .i64 (a : Int)], .int .i64 (g : Int), .int .i64 (b : Int)] =
    some (.agg [.int .i64 (ratN (ch l s - accN l s g a) (ch l s)), .int .i64 (ratD (ch l s - accN l s g a) (ch l s)), .int .i64 (ratN (accN l s b a) (ch l s)), .int .i64 (ratD (accN l s b a) (ch l s))], false) := by
  have h1 := I47 h hg
  have h2 := I47 h hb
  have ha := h.a1
  have h3 := rat_rest (accN_le (L := l) (S := s) (d := g) (a := a) hg (by omega)) (ch_le h.l2 (by have := h.s2; have := h.l2; omega)) (ch_pos l s h.s2)
  have : ∃ hh, callFn pr (X pr) 48 [.agg [.int .i64 (l : Int), .int .i64 (s : Int), .int .i64 (a : Int)], .int .i64 (g : Int), .int .i64 (b : Int)] [] = some (.agg [.int .i64 (ratN (ch l s - accN l s g a) (ch l s)), .int .i64 (ratD (ch l s - accN l s g a) (ch l s)), .int .i64 (ratN (accN l s b a) (ch l s)), .int .i64 (ratD (accN l s b a) (ch l s))], false, hh) := by
    rw [callFn_at (show pr.fns 48 = some c48 from rfl) (by simp), ← h3.1, ← h3.2]
    simp only [go_sem, c48, h1, h2, reduceIte, Nat.reduceEqDiff, Nat.reduceAdd, Nat.reduceSub, Nat.reduceLT, Nat.reduceLeDiff, Nat.reduceMul, Int.reduceLT, Int.reduceLE, Int.reduceEq, Int.reduceNe, Int.reduceAdd, Int.reduceSub, Int.reduceNeg, Int.reduceMul]
    exact ⟨_, rfl⟩
  obtain ⟨hh, this⟩ := this
  exact callIso_of rfl this rfl rfl

theorem I106 {l s a g b : Nat} (h : PlanN l s a) (hg : g ≤ l) (hb : b ≤ l) : callIso pr (X pr) 106 [.agg [.int .i64 (l : Int), .int .i64 (s : Int), .int .i64 (a : Int)], .int .i64 (g : Int), .int .i64 (b : Int)] =
    some (.agg [.int .i64 (ratN (ch l s - accN l s g a) (ch l s)), .int .i64 (ratD (ch l s - accN l s g a) (ch l s)), .int .i64 (ratN (accN l s b a) (ch l s)), .int .i64 (ratD (accN l s b a) (ch l s))], false) := by
  obtain ⟨l1, l2, s1, s2, a1⟩ := h
  have h103 := I103 (l : Int) (s : Int) (g : Int) a (by omega) (by omega) (by omega)
  rw [accI_eq l2 s2 hg a (by omega)] at h103
  have h103b := I103 (l : Int) (s : Int) (b : Int) a (by omega) (by omega) (by omega)
  rw [accI_eq l2 s2 hb a (by omega)] at h103b
  have h104 := I104 (l : Int) (s : Int) (a : Int) (by omega)
  rw [binI_ch l2 (by omega)] at h104
  have hle := accN_le (L := l) (S := s) (d := g) (a := a) hg (by omega)
  have hch := ch_le (n := l) (k := s) l2 (by omega)
  have hw : wrapF .i64 ((ch l s : Int) - (accN l s g a : Int)) = ((ch l s - accN l s g a : Nat) : Int) := by rw [wrapF_i64 (by omega) (by omega)]; omega
  have h101 := I101 (ch l s - accN l s g a) (ch l s) (ch_pos l s s2)
  have h101b := I101 (accN l s b a) (ch l s) (ch_pos l s s2)
  have : ∃ hh, callFn pr (X pr) 106 [.agg [.int .i64 (l : Int), .int .i64 (s : Int), .int .i64 (a : Int)], .int .i64 (g : Int), .int .i64 (b : Int)] [] = some (.agg [.int .i64 (ratN (ch l s - accN l s g a) (ch l s)), .int .i64 (ratD (ch l s - accN l s g a) (ch l s)), .int .i64 (ratN (accN l s b a) (ch l s)), .int .i64 (ratD (accN l s b a) (ch l s))], false, hh) := by
    rw [callFn_at (show pr.fns 106 = some c106 from rfl) (by simp)]
    simp only [go_sem, c106, h103, h103b, h104, hw, h101, h101b, reduceIte, Nat.reduceEqDiff, Nat.reduceAdd, Nat.reduceSub, Nat.reduceLT, Nat.reduceLeDiff, Nat.reduceMul, Int.reduceLT, Int.reduceLE, Int.reduceEq, Int.reduceNe, Int.reduceAdd, Int.reduceSub, Int.reduceNeg, Int.reduceMul]
    exact ⟨_, rfl⟩
  obtain ⟨hh, this⟩ := this
  exact callIso_of rfl this rfl rfl

end Go.Z
