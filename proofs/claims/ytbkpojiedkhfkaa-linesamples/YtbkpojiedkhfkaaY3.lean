/-
  LineSamples: the plans' functions compute what they say (no machine in sight).
-/
import Derived.Test.YtbkpojiedkhfkaaY2
import Derived.Test.YtbkpojiedkhfkaaP1
import Derived.Test.YtbkpojiedkhfkaaL4
set_option linter.unusedVariables false
set_option linter.unusedSimpArgs false
set_option maxRecDepth 100000
set_option linter.unusedSimpArgs false
set_option linter.unusedVariables false
namespace Go.Z
open Go Go.Abs
theorem f26_eq (n lo hi : Int) : f26 n lo hi = some (checkRange n lo hi) := by
  unfold f26 checkRange
  by_cases h1 : n < lo
  · simp [h1]
  · by_cases h2 : hi < n
    · simp [h1, h2]
    · simp [h1, h2]
theorem f33_eq (b : Bool) (e : Int) : f33 b e = some (whenE b e) := by
  unfold f33 whenE; cases b <;> rfl
theorem f28_eq (n lo hi : Int) : f28 n lo hi = some (checkRange n lo hi) := by
  unfold f28 checkRange
  simp only [f33_eq]
  by_cases h1 : n < lo
  · simp [h1, whenE]
  · by_cases h2 : hi < n
    · simp [h1, h2, whenE]
    · simp [h1, h2, whenE]
theorem f44_eq (n : Int) : f44 n = some (checkRange n 1 30) := by unfold f44; rw [f28_eq]; rfl
theorem first_gen {f : Int → Option (Int ⊕ (Int ⊕ Int))} {l : List Int} (hl : l.length ≤ 1000) (hend : f (l.length : Int) = some (.inr (.inr (l.length : Int))))
    (hstep : ∀ (i : Nat) (x : Int), l[i]? = some x → f (i : Int) = if x = 0 then some (.inl ((i + 1 : Nat) : Int)) else some (.inr (.inl x))) :
    itO f 0 = some (if firstNZ l = 0 then .inr (l.length : Int) else .inl (firstNZ l)) := by
  have key := itO_list (δ := Int ⊕ Int) l f (fun i (_ : Unit) => (i : Int)) (fun _ _ x => if x = 0 then .inl () else .inr x) (fun _ => .inr (l.length : Int)) (fun e => .inl e) (fun _ _ => True) () (fun s _ => hend) ?_ trivial
  · have hr := runL_first (fun x : Int => x) l 0
    rw [List.map_id'] at hr
    rw [hr, Int.natCast_zero] at key
    rw [key]
    by_cases hz : firstNZ l = 0
    · simp [hz]
    · simp [hz]
  · intro i s x hx hi _
    rw [hstep i x hx]
    by_cases hz : x = 0
    · simp [hz]
    · simp [hz]
theorem f25_eq {o : Option (List Int)} (hl : (o.getD []).length ≤ 1000) : f25 o = some (firstNZ (o.getD [])) := by
  unfold f25
  rw [first_gen hl (by unfold s25_0; simp) (by
    intro i x hx
    have hi := (List.getElem?_eq_some_iff.1 hx).1
    have hlt : (i : Int) < ((o.getD []).length : Int) := by omega
    unfold s25_0
    by_cases hz : x = 0
    · simp [hz, hlt, idxO_nat, hx, wrap_nat (show i < 9223372036854775807 by omega)]
    · simp [hz, hlt, idxO_nat, hx])]
  by_cases hz : firstNZ (o.getD []) = 0
  · simp [hz]
  · simp [hz]
theorem f32_eq {o : Option (List Int)} (hl : (o.getD []).length ≤ 1000) : f32 o = some (firstNZ (o.getD [])) := by
  unfold f32
  rw [first_gen hl (by unfold s32_0; simp) (by
    intro i x hx
    have hi := (List.getElem?_eq_some_iff.1 hx).1
    have hlt : (i : Int) < ((o.getD []).length : Int) := by omega
    unfold s32_0
    by_cases hz : x = 0
    · simp [hz, hlt, idxO_nat, hx, wrap_nat (show i < 9223372036854775807 by omega)]
    · simp [hz, hlt, idxO_nat, hx])]
  by_cases hz : firstNZ (o.getD []) = 0
  · simp [hz]
  · simp [hz]
theorem f5_eq (p : GPlan) : f5 p = some (planE p.lot p.sample p.accept) := by
  unfold f5 planE
  simp only [f26_eq, obind_at]
  rw [f25_eq (by simp)]; rfl
theorem f27_eq (p : GPlan) : f27 p = some (planE p.lot p.sample p.accept) := by
  unfold f27 planE
  simp only [f44_eq, f28_eq, obind_at]
  rw [f32_eq (by simp)]; rfl
theorem f61_eq (n k : Int) (hk : k ≤ 1000) : f61 n k = some (binI n k) := by
  unfold f61 binI
  by_cases h1 : k < 0
  · simp [h1]
  · by_cases h2 : n < k
    · simp [h1, h2]
    · obtain ⟨m, rfl⟩ : ∃ m : Nat, k = (m : Int) := ⟨k.toNat, by omega⟩
      have hlen : (List.range m).length = m := List.length_range
      have key := itO_list (δ := Int × Int) (ε := Empty) (List.range m) (s61_0 n (m : Int)) (fun i (s : Int) => (s, (i : Int))) (fun _ s t => .inl (stepBin n s t)) (fun s => (s, (m : Int))) (fun d => nomatch d) (fun _ _ => True) 1 ?_ ?_ trivial
      · have hr : runL (δ := Empty) (fun _ s t => .inl (stepBin n s t)) 0 1 (List.range m) = .inl (loopBin n m) := runL_fold (stepBin n) _ _ _
        rw [hr, Int.natCast_zero] at key
        simp only [h1, h2, decide_false, cond_false, key, obind_at, if_false, Int.toNat_natCast]
      · intro s _
        rw [hlen]
        unfold s61_0
        simp
      · intro i s t ht hi _
        obtain ⟨rfl, hi'⟩ := range_at ht
        have hlt : (t : Int) < (m : Int) := by omega
        have hq : quoO .i64 (wrapF .i64 (s * wrapF .i64 (n - (t : Int)))) ((t + 1 : Nat) : Int) = some (stepBin n s t) := by
          unfold quoO; rw [if_neg (by omega)]; rfl
        refine ⟨trivial, ?_⟩
        unfold s61_0
        simp only [hlt, decide_true, cond_true, wrap_nat (show t < 9223372036854775807 by omega), hq, obind_at]
theorem f30_eq (L S d : Int) (a : Nat) (ha : a ≤ 100) (hS0 : 0 ≤ S) (hS : S ≤ 100) : f30 ⟨L, S, (a : Int)⟩ d = some (accI L S d a) := by
  have hlen : (List.range (a + 1)).length = a + 1 := List.length_range
  have hw : wrapF .i64 ((a : Int) + 1) = ((a + 1 : Nat) : Int) := wrap_nat (by omega)
  have key := itO_list (δ := Int × Int) (ε := Empty) (List.range (a + 1)) (s30_0 ⟨L, S, (a : Int)⟩ d) (fun i (s : Int) => (s, (i : Int))) (fun _ s t => .inl (accStep L S d s t)) (fun s => (s, ((a + 1 : Nat) : Int))) (fun d => nomatch d) (fun _ _ => True) 0 ?_ ?_ trivial
  · have hr : runL (δ := Empty) (fun _ s t => .inl (accStep L S d s t)) 0 0 (List.range (a + 1)) = .inl (accI L S d a) := runL_fold (accStep L S d) _ _ _
    rw [hr, Int.natCast_zero] at key
    unfold f30
    rw [key]; rfl
  · intro s _
    rw [hlen]
    unfold s30_0
    simp only [hw]
    simp
  · intro i s t ht hi _
    obtain ⟨rfl, hi'⟩ := range_at ht
    have hlt : (t : Int) < ((a + 1 : Nat) : Int) := by omega
    refine ⟨trivial, ?_⟩
    unfold s30_0
    simp only [hw, hlt, decide_true, cond_true, f61_eq d (t : Int) (by omega), f61_eq (wrapF .i64 (L - d)) (wrapF .i64 (S - (t : Int))) (by rw [wrapF_i64 (by omega) (by omega)]; omega), obind_at, wrap_nat (show t < 9223372036854775807 by omega)]
    rfl
theorem gcd_loop (n d : Int) : ∀ (b a : Nat), itO (s29_0 n d) ((a : Int), (b : Int)) = some (((Nat.gcd b a : Nat) : Int), (0 : Int)) := by
  intro b
  induction b using Nat.strongRecOn with
  | ind b ih =>
    intro a
    by_cases hb : b = 0
    · subst hb
      refine itO_out ?_
      unfold s29_0
      simp
    · have hs : s29_0 n d ((a : Int), (b : Int)) = some (.inl ((b : Int), ((a % b : Nat) : Int))) := by
        unfold s29_0
        have hb' : ¬ (b : Int) = 0 := by omega
        have hr : remO (a : Int) (b : Int) = some ((a % b : Nat) : Int) := by
          unfold remO; rw [if_neg hb']
          congr 1
        simp only [hb', decide_false, cond_false, hr, obind_at]
      rw [itO_in hs, ih (a % b) (Nat.mod_lt _ (by omega)) b, Nat.gcd_rec b a]
theorem f29_eq (n d : Nat) (hd : 0 < d) : f29 (n : Int) (d : Int) = some ⟨ratN n d, ratD n d⟩ := by
  unfold f29
  rw [gcd_loop]
  have hg : ((Nat.gcd d n : Nat) : Int) ≠ 0 := by have := Nat.gcd_pos_of_pos_left n hd; omega
  have q1 : quoO .i64 (n : Int) ((Nat.gcd d n : Nat) : Int) = some (ratN n d) := by unfold quoO; rw [if_neg hg]; rfl
  have q2 : quoO .i64 (d : Int) ((Nat.gcd d n : Nat) : Int) = some (ratD n d) := by unfold quoO; rw [if_neg hg]; rfl
  simp only [obind_at, q1, q2]
structure POk (l s a : Nat) : Prop where
  l8 : l ≤ 8
  s1 : 1 ≤ s
  sl : s ≤ l
  a1 : a < s
theorem ch_pos {n k : Nat} (h : k ≤ n) : 0 < ch n k := by
  induction n generalizing k with
  | zero => cases k with
    | zero => decide
    | succ k => omega
  | succ n ih => cases k with
    | zero => rw [ch_zero]; decide
    | succ k => rw [ch]; have := ih (k := k) (by omega); omega
theorem f6_eq {l s a d : Nat} (h : POk l s a) (hd : d ≤ l) : f6 ⟨(l : Int), (s : Int), (a : Int)⟩ (d : Int) = some (⟨ratN (accN l s d a) (ch l s), ratD (accN l s d a) (ch l s)⟩, 0) := by
  obtain ⟨h1, h2, h3, h4⟩ := h
  have hp : planE (l : Int) (s : Int) (a : Int) = 0 := by
    unfold planE checkRange
    rw [wrapF_i64 (by omega) (by omega), if_neg (by omega), if_neg (by omega), if_neg (by omega), if_neg (by omega), if_neg (by omega), if_neg (by omega)]
    rfl
  have hr : checkRange (d : Int) 0 (l : Int) = 0 := by unfold checkRange; rw [if_neg (by omega), if_neg (by omega)]
  have e30 := f30_eq (l : Int) (s : Int) (d : Int) a (by omega) (by omega) (by omega)
  rw [accI_eq (by omega) h3 hd a (by omega)] at e30
  have e31 : f31 ⟨(l : Int), (s : Int), (a : Int)⟩ = some ((ch l s : Nat) : Int) := by
    unfold f31
    simp only [f61_eq (l : Int) (s : Int) (by omega), obind_at, binI_ch (show l ≤ 30 by omega) (show s ≤ 30 by omega)]
  unfold f6
  simp only [f27_eq, hp, decide_true, cond_true, obind_at, f28_eq, hr, e30, e31, f29_eq _ _ (ch_pos h3)]
theorem f7_eq {l s a : Nat} (h : POk l s a) (o : Option (List Bool)) (hl : (o.getD []).length ≤ s) : f7 ⟨(l : Int), (s : Int), (a : Int)⟩ o = some (decR (s : Int) (a : Int) (o.getD [])) := by
  obtain ⟨h1, h2, h3, h4⟩ := h
  have hp : planE (l : Int) (s : Int) (a : Int) = 0 := by
    unfold planE checkRange
    rw [wrapF_i64 (by omega) (by omega), if_neg (by omega), if_neg (by omega), if_neg (by omega), if_neg (by omega), if_neg (by omega), if_neg (by omega)]
    rfl
  have hm : whenE (decide ((s : Int) < ((o.getD []).length : Int))) 5 = 0 := by
    rw [show decide ((s : Int) < ((o.getD []).length : Int)) = false by simp; omega]; rfl
  have e32 : f32 (some [0, 0]) = some 0 := f32_eq (o := some [0, 0]) (by simp)
  have key := itO_list (δ := (Bool × Int) ⊕ (Int × Int)) (o.getD []) (s7_0 ⟨(l : Int), (s : Int), (a : Int)⟩ o) (fun i (bad : Nat) => ((bad : Int), (i : Int))) (stepDec (s : Int) (a : Int)) (fun bad => .inr ((bad : Int), ((o.getD []).length : Int))) (fun d => .inl (d.1, (d.2 : Int))) (fun i bad => bad ≤ i) 0 ?_ ?_ (Nat.le_refl _)
  · rw [Int.natCast_zero] at key
    unfold f7
    simp only [f27_eq, hp, f33_eq, hm, e32, decide_true, cond_true, obind_at, key]
    unfold decR
    cases runL (stepDec (s : Int) (a : Int)) 0 0 (o.getD []) with
    | inl bad => rfl
    | inr r => rfl
  · intro bad _
    unfold s7_0
    simp
  · intro i bad f hf hi hb
    have hlt : (i : Int) < ((o.getD []).length : Int) := by omega
    have w1 : wrapF .i64 ((i : Int) + 1) = ((i + 1 : Nat) : Int) := wrap_nat (by omega)
    have w2 : wrapF .i64 ((bad : Int) + 1) = ((bad + 1 : Nat) : Int) := wrap_nat (by omega)
    have w3 : wrapF .i64 (((i + 1 : Nat) : Int) - ((bad + 1 : Nat) : Int)) = ((i + 1 : Nat) : Int) - ((bad + 1 : Nat) : Int) := wrapF_i64 (by omega) (by omega)
    have w4 : wrapF .i64 ((s : Int) - (((i + 1 : Nat) : Int) - ((bad + 1 : Nat) : Int))) = (s : Int) - (((i + 1 : Nat) : Int) - ((bad + 1 : Nat) : Int)) := wrapF_i64 (by omega) (by omega)
    have w5 : wrapF .i64 (((i + 1 : Nat) : Int) - (bad : Int)) = ((i + 1 : Nat) : Int) - (bad : Int) := wrapF_i64 (by omega) (by omega)
    have w6 : wrapF .i64 ((s : Int) - (((i + 1 : Nat) : Int) - (bad : Int))) = (s : Int) - (((i + 1 : Nat) : Int) - (bad : Int)) := wrapF_i64 (by omega) (by omega)
    unfold stepDec
    cases f with
    | true =>
      simp only [badN, if_true]
      by_cases c1 : (a : Int) < ((bad + 1 : Nat) : Int)
      · rw [if_pos c1]
        simp only []
        unfold s7_0
        simp only [hlt, decide_true, cond_true, idxO_nat, hf, obind_at, w1, w2, c1]
      · rw [if_neg c1]
        by_cases c2 : (s : Int) - ((i : Int) + 1 - ((bad + 1 : Nat) : Int)) ≤ (a : Int)
        · rw [if_pos c2]
          have c2' : (s : Int) - (((i + 1 : Nat) : Int) - ((bad + 1 : Nat) : Int)) ≤ (a : Int) := by omega
          simp only []
          unfold s7_0
          simp only [hlt, decide_true, decide_false, cond_true, cond_false, idxO_nat, hf, obind_at, w1, w2, w3, w4, c1, c2']
        · rw [if_neg c2]
          have c2' : ¬ (s : Int) - (((i + 1 : Nat) : Int) - ((bad + 1 : Nat) : Int)) ≤ (a : Int) := by omega
          refine ⟨by omega, ?_⟩
          unfold s7_0
          simp only [hlt, decide_true, decide_false, cond_true, cond_false, idxO_nat, hf, obind_at, w1, w2, w3, w4, c1, c2']
    | false =>
      simp only [badN, Bool.false_eq_true, if_false]
      by_cases c1 : (a : Int) < (bad : Int)
      · rw [if_pos c1]
        simp only []
        unfold s7_0
        simp only [hlt, decide_true, cond_true, cond_false, idxO_nat, hf, obind_at, w1, c1]
      · rw [if_neg c1]
        by_cases c2 : (s : Int) - ((i : Int) + 1 - (bad : Int)) ≤ (a : Int)
        · rw [if_pos c2]
          have c2' : (s : Int) - (((i + 1 : Nat) : Int) - (bad : Int)) ≤ (a : Int) := by omega
          simp only []
          unfold s7_0
          simp only [hlt, decide_true, decide_false, cond_true, cond_false, idxO_nat, hf, obind_at, w1, w5, w6, c1, c2']
        · rw [if_neg c2]
          have c2' : ¬ (s : Int) - (((i + 1 : Nat) : Int) - (bad : Int)) ≤ (a : Int) := by omega
          refine ⟨by omega, ?_⟩
          unfold s7_0
          simp only [hlt, decide_true, decide_false, cond_true, cond_false, idxO_nat, hf, obind_at, w1, w5, w6, c1, c2']
end Go.Z
