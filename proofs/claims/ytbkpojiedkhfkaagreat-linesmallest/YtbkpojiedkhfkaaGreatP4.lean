/-
  Acceptance in numbers; risks: the runs.
-/
import Derived.Test.YtbkpojiedkhfkaaGreatP1
set_option linter.unusedVariables false
set_option linter.unusedSimpArgs false
set_option maxRecDepth 100000
set_option linter.unusedSimpArgs false
namespace Go.Z
open Go Go.Abs
def chOk : Bool := (List.range 31).all fun n => (List.range 31).all fun k => Nat.ble ((row n).getD k 0) 1073741824
theorem chOk_true : chOk = true := by kernel_rfl
theorem ch_le {n k : Nat} (hn : n ≤ 30) (hk : k ≤ 30) : ch n k ≤ 1073741824 := by
  have h := chOk_true
  unfold chOk at h
  have h1 := List.all_eq_true.1 h n (List.mem_range.2 (by omega))
  have h2 := List.all_eq_true.1 h1 k (List.mem_range.2 (by omega))
  rw [← row_at]
  exact Nat.le_of_ble_eq_true h2
theorem ch_pos : ∀ (n k : Nat), k ≤ n → 0 < ch n k
  | n, 0, _ => by rw [ch_zero]; decide
  | n + 1, k + 1, h => by
    have := ch_pos n k (by omega)
    simp only [ch]
    omega
def accN (L S d a : Nat) : Nat := psum (fun k => ch d k * ch (L - d) (S - k)) (a + 1)
theorem accN_le {L S d a : Nat} (hd : d ≤ L) (ha : a ≤ S) : accN L S d a ≤ ch L S := by
  unfold accN
  have h1 : psum (fun k => ch d k * ch (L - d) (S - k)) (a + 1) ≤ psum (fun k => ch d k * ch (L - d) (S - k)) (S + 1) := psum_mono (by omega)
  rw [psum_conv (ch (L - d)) S (ch d), vandermonde, show d + (L - d) = L by omega] at h1
  exact h1
theorem accI_eq {L S d : Nat} (hL : L ≤ 30) (hS : S ≤ L) (hd : d ≤ L) : ∀ a, a ≤ S → accI (L : Int) (S : Int) (d : Int) a = (accN L S d a : Int)
  | a, ha => by
    have hstep : ∀ k, k ≤ a → accStep (L : Int) (S : Int) (d : Int) (psum (fun k => ch d k * ch (L - d) (S - k)) k : Int) k = (psum (fun k => ch d k * ch (L - d) (S - k)) (k + 1) : Int) := by
      intro k hk
      have hb := accN_le (L := L) (S := S) (d := d) (a := k) hd (by omega)
      have hc := ch_le (n := L) (k := S) hL (by omega)
      unfold accN at hb
      have h1 : wrapF .i64 ((L : Int) - (d : Int)) = ((L - d : Nat) : Int) := by rw [wrapF_i64 (by omega) (by omega)]; omega
      have h2 : wrapF .i64 ((S : Int) - (k : Int)) = ((S - k : Nat) : Int) := by rw [wrapF_i64 (by omega) (by omega)]; omega
      have h3 := binI_ch (n := d) (k := k) (by omega) (by omega)
      have h4 := binI_ch (n := L - d) (k := S - k) (by omega) (by omega)
      unfold accStep
      rw [h1, h2, h3, h4]
      simp only [psum] at hb ⊢
      generalize psum (fun k => ch d k * ch (L - d) (S - k)) k = q at *
      have hm : (ch d k : Int) * (ch (L - d) (S - k) : Int) = ((ch d k * ch (L - d) (S - k) : Nat) : Int) := (Int.natCast_mul _ _).symm
      rw [hm]
      generalize ch d k * ch (L - d) (S - k) = r at *
      rw [wrapF_i64 (x := (r : Int)) (by omega) (by omega), wrapF_i64 (by omega) (by omega)]
      omega
    have : ∀ n, n ≤ a + 1 → (List.range n).foldl (accStep (L : Int) (S : Int) (d : Int)) 0 = (psum (fun k => ch d k * ch (L - d) (S - k)) n : Int) := by
      intro n
      induction n with
      | zero => intro _; rfl
      | succ n ih =>
        intro hn
        rw [List.range_succ, List.foldl_append, ih (by omega), List.foldl_cons, List.foldl_nil]
        exact hstep n (by omega)
    exact this (a + 1) (Nat.le_refl _)
theorem plan_ok {L S A : Int} (h : planE L S A = 0) : ∃ l s a : Nat, L = l ∧ S = s ∧ A = a ∧ 1 ≤ l ∧ l ≤ 30 ∧ 1 ≤ s ∧ s ≤ l ∧ a < s := by
  unfold planE at h
  have h1 := checkRange_zero (firstNZ_zero h _ (List.mem_cons_self ..))
  have h2 := checkRange_zero (firstNZ_zero h _ (List.mem_cons_of_mem _ (List.mem_cons_self ..)))
  have h3 := checkRange_zero (firstNZ_zero h _ (List.mem_cons_of_mem _ (List.mem_cons_of_mem _ (List.mem_cons_self ..))))
  rw [wrapF_i64 (by omega) (by omega)] at h3
  exact ⟨L.toNat, S.toNat, A.toNat, by omega, by omega, by omega, by omega, by omega, by omega, by omega, by omega⟩
end Go.Z
/-
  Acceptance and risks, both: the runs.
-/
set_option maxRecDepth 100000
set_option linter.unusedSimpArgs false
namespace Go.Z
open Go Go.Abs
structure PlanN (l s a : Nat) : Prop where
  l1 : 1 ≤ l
  l2 : l ≤ 30
  s1 : 1 ≤ s
  s2 : s ≤ l
  a1 : a < s
theorem I47 {l s a d : Nat} (h : PlanN l s a) (hd : d ≤ l) : callIso pr (X pr) 47 [.agg [.int .i64 (l : Int), .int .i64 (s : Int), .int .i64 (a : Int)], .int .i64 (d : Int)] = some (.agg [.int .i64 (ratN (accN l s d a) (ch l s)), .int .i64 (ratD (accN l s d a) (ch l s))], false) := by
  obtain ⟨l1, l2, s1, s2, a1⟩ := h
  have hl := l47 (l : Int) (s : Int) (d : Int) a (.cells [(.int .i64 0, false), (.int .i64 0, false)]) (by omega) (by omega) (by omega)
  simp only [pBox] at hl
  rw [accI_eq l2 s2 hd a (by omega)] at hl
  have h107 := I107 (l : Int) (s : Int) (by omega)
  rw [binI_ch l2 (by omega)] at h107
  have h102 := I102 (accN l s d a) (ch l s) (ch_pos l s s2) (by have := accN_le (L := l) (S := s) (d := d) (a := a) hd (by omega); have := ch_le (n := l) (k := s) l2 (by omega); omega)
  have : ∃ hh, callFn pr (X pr) 47 [.agg [.int .i64 (l : Int), .int .i64 (s : Int), .int .i64 (a : Int)], .int .i64 (d : Int)] [] = some (.agg [.int .i64 (ratN (accN l s d a) (ch l s)), .int .i64 (ratD (accN l s d a) (ch l s))], false, hh) := by
    rw [callFn_at (show pr.fns 47 = some c47 from rfl) (by simp)]
    simp only [go_sem, c47, hl, h107, h102, reduceIte, Nat.reduceEqDiff, Nat.reduceAdd, Nat.reduceSub, Nat.reduceLT, Nat.reduceLeDiff, Nat.reduceMul, Int.reduceLT, Int.reduceLE, Int.reduceEq, Int.reduceNe, Int.reduceAdd, Int.reduceSub, Int.reduceNeg, Int.reduceMul]
    exact ⟨_, rfl⟩
  obtain ⟨hh, this⟩ := this
  exact callIso_of rfl this rfl rfl
def accE (L S A d : Int) : Int := firstNZ [planE L S A, checkRange d 0 L]
theorem I42ok {l s a d : Nat} (h : PlanN l s a) (hd : d ≤ l) (hp : planE (l : Int) (s : Int) (a : Int) = 0) (hr : checkRange (d : Int) 0 (l : Int) = 0) :
    callIso pr (X pr) 42 [.agg [.int .i64 (l : Int), .int .i64 (s : Int), .int .i64 (a : Int)], .int .i64 (d : Int)] = some (.tup [.agg [.int .i64 (ratN (accN l s d a) (ch l s)), .int .i64 (ratD (accN l s d a) (ch l s))], .int .i64 0], false) := by
  obtain ⟨l1, l2, s1, s2, a1⟩ := h
  have h103 := I103 (l : Int) (s : Int) (d : Int) a (by omega) (by omega) (by omega)
  rw [accI_eq l2 s2 hd a (by omega)] at h103
  have h104 := I104 (l : Int) (s : Int) (a : Int) (by omega)
  rw [binI_ch l2 (by omega)] at h104
  have h101 := I101 (accN l s d a) (ch l s) (ch_pos l s s2)
  have : ∃ hh, callFn pr (X pr) 42 [.agg [.int .i64 (l : Int), .int .i64 (s : Int), .int .i64 (a : Int)], .int .i64 (d : Int)] [] = some (.tup [.agg [.int .i64 (ratN (accN l s d a) (ch l s)), .int .i64 (ratD (accN l s d a) (ch l s))], .int .i64 0], false, hh) := by
    rw [callFn_at (show pr.fns 42 = some c42 from rfl) (by simp)]
    simp only [go_sem, c42, I50, hp, I88, hr, h103, h104, h101, reduceIte, Nat.reduceEqDiff, Nat.reduceAdd, Nat.reduceSub, Nat.reduceLT, Nat.reduceLeDiff, Nat.reduceMul, Int.reduceLT, Int.reduceLE, Int.reduceEq, Int.reduceNe, Int.reduceAdd, Int.reduceSub, Int.reduceNeg, Int.reduceMul]
    exact ⟨_, rfl⟩
  obtain ⟨hh, this⟩ := this
  exact callIso_of rfl this rfl rfl
theorem I42e (L S A d : Int) (hz : ¬ accE L S A d = 0) : callIso pr (X pr) 42 [.agg [.int .i64 L, .int .i64 S, .int .i64 A], .int .i64 d] = some (.tup [.agg [.int .i64 0, .int .i64 0], .int .i64 (accE L S A d)], false) := by
  have : ∃ hh, callFn pr (X pr) 42 [.agg [.int .i64 L, .int .i64 S, .int .i64 A], .int .i64 d] [] = some (.tup [.agg [.int .i64 0, .int .i64 0], .int .i64 (accE L S A d)], false, hh) := by
    rw [callFn_at (show pr.fns 42 = some c42 from rfl) (by simp)]
    by_cases hp : planE L S A = 0
    · have he : accE L S A d = checkRange d 0 L := by
        unfold accE; simp only [firstNZ, hp, if_true]; split <;> simp_all
      rw [he] at hz ⊢
      simp only [go_sem, c42, I50, hp, I88, hz, reduceIte, Nat.reduceEqDiff, Nat.reduceAdd, Nat.reduceSub, Nat.reduceLT, Nat.reduceLeDiff, Nat.reduceMul, Int.reduceLT, Int.reduceLE, Int.reduceEq, Int.reduceNe, Int.reduceAdd, Int.reduceSub, Int.reduceNeg, Int.reduceMul]
      exact ⟨_, rfl⟩
    · have he : accE L S A d = planE L S A := by unfold accE; simp only [firstNZ, if_neg hp]
      rw [he]
      simp only [go_sem, c42, I50, hp, reduceIte, Nat.reduceEqDiff, Nat.reduceAdd, Nat.reduceSub, Nat.reduceLT, Nat.reduceLeDiff, Nat.reduceMul, Int.reduceLT, Int.reduceLE, Int.reduceEq, Int.reduceNe, Int.reduceAdd, Int.reduceSub, Int.reduceNeg, Int.reduceMul]
      exact ⟨_, rfl⟩
  obtain ⟨hh, this⟩ := this
  exact callIso_of rfl this rfl rfl
theorem gcd_rest {n t : Nat} (h : n ≤ t) : Nat.gcd t (t - n) = Nat.gcd t n := by
  rw [Nat.gcd_comm, Nat.gcd_comm t n]
  have h1 : Nat.gcd (t - n) t = Nat.gcd (t - n) n := by
    have : t = n + (t - n) := by omega
    conv => lhs; rw [this]
    rw [show n + (t - n) - n = t - n by omega, Nat.gcd_add_self_right]
  have h2 : Nat.gcd n t = Nat.gcd n (t - n) := by
    have : t = (t - n) + n := by omega
    conv => lhs; rw [this]
    rw [Nat.gcd_add_self_right]
  rw [h1, h2, Nat.gcd_comm]
theorem ratN_eq {n t : Nat} (h : n ≤ 1073741824) : ratN n t = ((n / Nat.gcd t n : Nat) : Int) := by
  unfold ratN
  rw [show (n : Int).tdiv (Nat.gcd t n : Int) = ((n / Nat.gcd t n : Nat) : Int) from Int.ofNat_tdiv _ _]
  have := Nat.div_le_self n (Nat.gcd t n)
  generalize n / Nat.gcd t n = q at *
  exact wrapF_i64 (by omega) (by omega)
theorem ratD_eq {n t : Nat} (h : t ≤ 1073741824) : ratD n t = ((t / Nat.gcd t n : Nat) : Int) := by
  unfold ratD
  rw [show (t : Int).tdiv (Nat.gcd t n : Int) = ((t / Nat.gcd t n : Nat) : Int) from Int.ofNat_tdiv _ _]
  have := Nat.div_le_self t (Nat.gcd t n)
  generalize t / Nat.gcd t n = q at *
  exact wrapF_i64 (by omega) (by omega)
theorem rat_rest {n t : Nat} (h : n ≤ t) (ht : t ≤ 1073741824) (hpos : 0 < t) : wrapF .i64 (ratD n t - ratN n t) = ratN (t - n) t ∧ ratD n t = ratD (t - n) t := by
  rw [ratN_eq (n := n) (by omega), ratD_eq (n := n) ht, ratN_eq (n := t - n) (by omega), ratD_eq (n := t - n) ht, gcd_rest h]
  have hg : 0 < Nat.gcd t n := Nat.gcd_pos_of_pos_left n hpos
  obtain ⟨x, hx⟩ := Nat.gcd_dvd_left t n
  obtain ⟨y, hy⟩ := Nat.gcd_dvd_right t n
  have e1 : t / Nat.gcd t n = x := by conv => lhs; lhs; rw [hx]
                                      exact Nat.mul_div_cancel_left x hg
  have e2 : n / Nat.gcd t n = y := by conv => lhs; lhs; rw [hy]
                                      exact Nat.mul_div_cancel_left y hg
  have e3 : (t - n) / Nat.gcd t n = x - y := by
    have : t - n = Nat.gcd t n * (x - y) := by
      rw [Nat.mul_sub, ← hx, ← hy]
    rw [this, Nat.mul_div_cancel_left _ hg]
  have hle : n / Nat.gcd t n ≤ t / Nat.gcd t n := Nat.div_le_div_right h
  have hxt : t / Nat.gcd t n ≤ t := Nat.div_le_self _ _
  rw [e3, ← e1, ← e2]
  refine ⟨?_, rfl⟩
  generalize n / Nat.gcd t n = q at *
  generalize t / Nat.gcd t n = r at *
  rw [wrapF_i64 (by omega) (by omega)]
  omega
theorem I48 {l s a g b : Nat} (h : PlanN l s a) (hg : g ≤ l) (hb : b ≤ l) : callIso pr (X pr) 48 [.agg [.int .i64 (l : Int), .int .i64 (s : Int), .int .i64 (a : Int)], .int .i64 (g : Int), .int .i64 (b : Int)] =
    some (.agg [.int .i64 (ratN (ch l s - accN l s g a) (ch l s)), .int .i64 (ratD (ch l s - accN l s g a) (ch l s)), .int .i64 (ratN (accN l s b a) (ch l s)), .int .i64 (ratD (accN l s b a) (ch l s))], false) := by
  have h1 := I47 h hg
  have h2 := I47 h hb
  have ha := h.a1
  have h3 := rat_rest (accN_le (L := l) (S := s) (d := g) (a := a) hg (by omega)) (ch_le h.l2 (by have := h.s2; have := h.l2; omega)) (ch_pos l s h.s2)
  have : ∃ hh, callFn pr (X pr) 48 [.agg [.int .i64 (l : Int), .int .i64 (s : Int), .int .i64 (a : Int)], .int .i64 (g : Int), .int .i64 (b : Int)] [] = some (.agg [.int .i64 (ratN (ch l s - accN l s g a) (ch l s)), .int .i64 (ratD (ch l s - accN l s g a) (ch l s)), .int .i64 (ratN (accN l s b a) (ch l s)), .int .i64 (ratD (accN l s b a) (ch l s))], false, hh) := by
    rw [callFn_at (show pr.fns 48 = some c48 from rfl) (by simp), ← h3.1, ← h3.2]
    simp only [go_sem, c48, h1, h2, reduceIte, Nat.reduceEqDiff, Nat.reduceAdd, Nat.reduceSub, Nat.reduceLT, Nat.reduceLeDiff, Nat.reduceMul, Int.reduceLT, Int.reduceLE, Int.reduceEq, Int.reduceNe, Int.reduceAdd, Int.reduceSub, Int.reduceNeg, Int.reduceMul]
    exact ⟨_, rfl⟩
  obtain ⟨hh, this⟩ := this
  exact callIso_of rfl this rfl rfl
theorem I106 {l s a g b : Nat} (h : PlanN l s a) (hg : g ≤ l) (hb : b ≤ l) : callIso pr (X pr) 106 [.agg [.int .i64 (l : Int), .int .i64 (s : Int), .int .i64 (a : Int)], .int .i64 (g : Int), .int .i64 (b : Int)] =
    some (.agg [.int .i64 (ratN (ch l s - accN l s g a) (ch l s)), .int .i64 (ratD (ch l s - accN l s g a) (ch l s)), .int .i64 (ratN (accN l s b a) (ch l s)), .int .i64 (ratD (accN l s b a) (ch l s))], false) := by
  obtain ⟨l1, l2, s1, s2, a1⟩ := h
  have h103 := I103 (l : Int) (s : Int) (g : Int) a (by omega) (by omega) (by omega)
  rw [accI_eq l2 s2 hg a (by omega)] at h103
  have h103b := I103 (l : Int) (s : Int) (b : Int) a (by omega) (by omega) (by omega)
  rw [accI_eq l2 s2 hb a (by omega)] at h103b
  have h104 := I104 (l : Int) (s : Int) (a : Int) (by omega)
  rw [binI_ch l2 (by omega)] at h104
  have hle := accN_le (L := l) (S := s) (d := g) (a := a) hg (by omega)
  have hch := ch_le (n := l) (k := s) l2 (by omega)
  have hw : wrapF .i64 ((ch l s : Int) - (accN l s g a : Int)) = ((ch l s - accN l s g a : Nat) : Int) := by rw [wrapF_i64 (by omega) (by omega)]; omega
  have h101 := I101 (ch l s - accN l s g a) (ch l s) (ch_pos l s s2)
  have h101b := I101 (accN l s b a) (ch l s) (ch_pos l s s2)
  have : ∃ hh, callFn pr (X pr) 106 [.agg [.int .i64 (l : Int), .int .i64 (s : Int), .int .i64 (a : Int)], .int .i64 (g : Int), .int .i64 (b : Int)] [] = some (.agg [.int .i64 (ratN (ch l s - accN l s g a) (ch l s)), .int .i64 (ratD (ch l s - accN l s g a) (ch l s)), .int .i64 (ratN (accN l s b a) (ch l s)), .int .i64 (ratD (accN l s b a) (ch l s))], false, hh) := by
    rw [callFn_at (show pr.fns 106 = some c106 from rfl) (by simp)]
    simp only [go_sem, c106, h103, h103b, h104, hw, h101, h101b, reduceIte, Nat.reduceEqDiff, Nat.reduceAdd, Nat.reduceSub, Nat.reduceLT, Nat.reduceLeDiff, Nat.reduceMul, Int.reduceLT, Int.reduceLE, Int.reduceEq, Int.reduceNe, Int.reduceAdd, Int.reduceSub, Int.reduceNeg, Int.reduceMul]
    exact ⟨_, rfl⟩
  obtain ⟨hh, this⟩ := this
  exact callIso_of rfl this rfl rfl
end Go.Z
/-
  Risks of the product, with errors; decisions: the runs.
-/
set_option maxRecDepth 100000
set_option linter.unusedSimpArgs false
namespace Go.Z
open Go Go.Abs
def riskE (L S A g b : Int) : Int := firstNZ [planE L S A, defE L g b]
theorem I43ok {l s a g b : Nat} (h : PlanN l s a) (hg : g ≤ l) (hb : b ≤ l) (hp : planE (l : Int) (s : Int) (a : Int) = 0) (hr : defE (l : Int) (g : Int) (b : Int) = 0) :
    callIso pr (X pr) 43 [.agg [.int .i64 (l : Int), .int .i64 (s : Int), .int .i64 (a : Int)], .int .i64 (g : Int), .int .i64 (b : Int)] =
    some (.tup [.agg [.int .i64 (ratN (ch l s - accN l s g a) (ch l s)), .int .i64 (ratD (ch l s - accN l s g a) (ch l s)), .int .i64 (ratN (accN l s b a) (ch l s)), .int .i64 (ratD (accN l s b a) (ch l s))], .int .i64 0], false) := by
  have h106 := I106 h hg hb
  have : ∃ hh, callFn pr (X pr) 43 [.agg [.int .i64 (l : Int), .int .i64 (s : Int), .int .i64 (a : Int)], .int .i64 (g : Int), .int .i64 (b : Int)] [] = some (.tup [.agg [.int .i64 (ratN (ch l s - accN l s g a) (ch l s)), .int .i64 (ratD (ch l s - accN l s g a) (ch l s)), .int .i64 (ratN (accN l s b a) (ch l s)), .int .i64 (ratD (accN l s b a) (ch l s))], .int .i64 0], false, hh) := by
    rw [callFn_at (show pr.fns 43 = some c43 from rfl) (by simp)]
    simp only [go_sem, c43, I50, hp, I105, hr, h106, reduceIte, Nat.reduceEqDiff, Nat.reduceAdd, Nat.reduceSub, Nat.reduceLT, Nat.reduceLeDiff, Nat.reduceMul, Int.reduceLT, Int.reduceLE, Int.reduceEq, Int.reduceNe, Int.reduceAdd, Int.reduceSub, Int.reduceNeg, Int.reduceMul]
    exact ⟨_, rfl⟩
  obtain ⟨hh, this⟩ := this
  exact callIso_of rfl this rfl rfl
theorem I43e (L S A g b : Int) (hz : ¬ riskE L S A g b = 0) : callIso pr (X pr) 43 [.agg [.int .i64 L, .int .i64 S, .int .i64 A], .int .i64 g, .int .i64 b] = some (.tup [.agg [.int .i64 0, .int .i64 0, .int .i64 0, .int .i64 0], .int .i64 (riskE L S A g b)], false) := by
  have : ∃ hh, callFn pr (X pr) 43 [.agg [.int .i64 L, .int .i64 S, .int .i64 A], .int .i64 g, .int .i64 b] [] = some (.tup [.agg [.int .i64 0, .int .i64 0, .int .i64 0, .int .i64 0], .int .i64 (riskE L S A g b)], false, hh) := by
    rw [callFn_at (show pr.fns 43 = some c43 from rfl) (by simp)]
    by_cases hp : planE L S A = 0
    · have he : riskE L S A g b = defE L g b := by
        unfold riskE; simp only [firstNZ, hp, if_true]; split <;> simp_all
      rw [he] at hz ⊢
      simp only [go_sem, c43, I50, hp, I105, hz, reduceIte, Nat.reduceEqDiff, Nat.reduceAdd, Nat.reduceSub, Nat.reduceLT, Nat.reduceLeDiff, Nat.reduceMul, Int.reduceLT, Int.reduceLE, Int.reduceEq, Int.reduceNe, Int.reduceAdd, Int.reduceSub, Int.reduceNeg, Int.reduceMul]
      exact ⟨_, rfl⟩
    · have he : riskE L S A g b = planE L S A := by unfold riskE; simp only [firstNZ, if_neg hp]
      rw [he]
      simp only [go_sem, c43, I50, hp, reduceIte, Nat.reduceEqDiff, Nat.reduceAdd, Nat.reduceSub, Nat.reduceLT, Nat.reduceLeDiff, Nat.reduceMul, Int.reduceLT, Int.reduceLE, Int.reduceEq, Int.reduceNe, Int.reduceAdd, Int.reduceSub, Int.reduceNeg, Int.reduceMul]
      exact ⟨_, rfl⟩
  obtain ⟨hh, this⟩ := this
  exact callIso_of rfl this rfl rfl
end Go.Z
