/-
  Sorting, and the bound of work: both.
-/
import Derived.Test.YtbkpojiedkhfkaaGreatB6
set_option linter.unusedVariables false
set_option linter.unusedSimpArgs false
set_option maxRecDepth 100000
set_option linter.unusedSimpArgs false
set_option linter.unusedVariables false
namespace Go.Z
open Go Go.Abs
def sumI : List Int → Int
  | [] => 0
  | x :: l => x + sumI l
theorem sumI_fold : ∀ (l : List Int) (s : Int), l.foldl (· + ·) s = s + sumI l
  | [], s => by simp [sumI]
  | x :: l, s => by rw [List.foldl_cons, sumI_fold l]; simp only [sumI]; omega
theorem sumI_snoc (l : List Int) (x : Int) : sumI (l ++ [x]) = sumI l + x := by
  induction l with
  | nil => simp [sumI]
  | cons y l ih => simp only [List.cons_append, sumI, ih]; omega
theorem sumI_set : ∀ (l : List Int) (i : Nat) (x : Int), i < l.length → sumI (l.set i x) = sumI l - l.getD i 0 + x
  | y :: l, 0, x, _ => by simp [sumI]; omega
  | y :: l, i + 1, x, h => by
    simp only [List.set_cons_succ, sumI, List.getD_cons_succ]
    rw [sumI_set l i x (by simpa using h)]; omega
theorem sumI_bounds {lo hi : Int} : ∀ {l : List Int}, (∀ x ∈ l, lo ≤ x ∧ x ≤ hi) → lo * l.length ≤ sumI l ∧ sumI l ≤ hi * l.length
  | [], _ => by simp [sumI]
  | x :: l, h => by
    have h1 := h x (List.mem_cons_self ..)
    obtain ⟨h2, h3⟩ := sumI_bounds fun y hy => h y (List.mem_cons_of_mem _ hy)
    simp only [sumI, List.length_cons, Int.natCast_add, Int.mul_add]
    omega
def swapL (e : List Int) (j : Nat) : List Int := (e.set (j + 1) (e.getD j 0)).set j (e.getD (j + 1) 0)
theorem swap_len (e : List Int) (j : Nat) : (swapL e j).length = e.length := by simp [swapL]
theorem swap_at {e : List Int} {j i : Nat} (h : j + 1 < e.length) : (swapL e j).getD i 0 = if i = j then e.getD (j + 1) 0 else if i = j + 1 then e.getD j 0 else e.getD i 0 := by
  unfold swapL
  simp only [List.getD_eq_getElem?_getD, List.getElem?_set, List.length_set]
  by_cases h1 : i = j
  · subst h1; simp [show i < e.length by omega]
  · by_cases h2 : i = j + 1
    · subst h2; simp [h]
    · have h1' : ¬ j = i := fun hh => h1 hh.symm
      have h2' : ¬ j + 1 = i := fun hh => h2 hh.symm
      simp [h1, h2, h1', h2']
theorem swap_sum {e : List Int} {j : Nat} (h : j + 1 < e.length) : sumI (swapL e j) = sumI e := by
  unfold swapL
  rw [sumI_set _ _ _ (by simp; omega), sumI_set _ _ _ h]
  have : (e.set (j + 1) (e.getD j 0)).getD j 0 = e.getD j 0 := by
    simp only [List.getD_eq_getElem?_getD, List.getElem?_set]
    simp
  rw [this]; omega
theorem swap_all {e : List Int} {j : Nat} {P : Int → Prop} (h : j + 1 < e.length) (hp : ∀ x ∈ e, P x) : ∀ x ∈ swapL e j, P x := by
  intro x hx
  obtain ⟨i, hi⟩ := List.getElem?_of_mem hx
  have hil : i < e.length := by have := (List.getElem?_eq_some_iff.1 hi).1; rwa [swap_len] at this
  have e1 : (swapL e j).getD i 0 = x := by rw [List.getD_eq_getElem?_getD, hi]; rfl
  have hg : ∀ k, k < e.length → P (e.getD k 0) := fun k hk => by
    rw [List.getD_eq_getElem?_getD, List.getElem?_eq_getElem hk]
    exact hp _ (List.getElem_mem hk)
  rw [← e1, swap_at h]
  split
  · exact hg _ h
  · split
    · exact hg _ (by omega)
    · exact hg _ hil
def sink : Nat → List Int → List Int
  | 0, e => e
  | j + 1, e => if e.getD j 0 < e.getD (j + 1) 0 then sink j (swapL e j) else e
theorem sink_len : ∀ (j : Nat) (e : List Int), (sink j e).length = e.length
  | 0, _ => rfl
  | j + 1, e => by
    unfold sink
    split
    · rw [sink_len j, swap_len]
    · rfl
theorem sink_sum : ∀ (j : Nat) (e : List Int), j < e.length → sumI (sink j e) = sumI e
  | 0, _, _ => rfl
  | j + 1, e, h => by
    unfold sink
    split
    · rw [sink_sum j _ (by rw [swap_len]; omega), swap_sum h]
    · rfl
theorem sink_all {P : Int → Prop} : ∀ (j : Nat) (e : List Int), j < e.length → (∀ x ∈ e, P x) → ∀ x ∈ sink j e, P x
  | 0, _, _, hp => hp
  | j + 1, e, h, hp => by
    unfold sink
    split
    · exact sink_all j _ (by rw [swap_len]; omega) (swap_all h hp)
    · exact hp
structure Desc (j m : Nat) (e : List Int) : Prop where
  rest : ∀ a b, a < b → b ≤ m → a ≠ j → b ≠ j → e.getD b 0 ≤ e.getD a 0
  here : ∀ b, j < b → b ≤ m → e.getD b 0 ≤ e.getD j 0
theorem sink_desc {m : Nat} : ∀ (j : Nat) (e : List Int), j ≤ m → m < e.length → Desc j m e → ∀ a b, a < b → b ≤ m → (sink j e).getD b 0 ≤ (sink j e).getD a 0
  | 0, e, _, _, h, a, b, hab, hb => by
    show e.getD b 0 ≤ e.getD a 0
    by_cases ha : a = 0
    · subst ha; exact h.here b hab hb
    · exact h.rest a b hab hb ha (by omega)
  | j + 1, e, hj, hm, h, a, b, hab, hb => by
    unfold sink
    by_cases hlt : e.getD j 0 < e.getD (j + 1) 0
    · rw [if_pos hlt]
      refine sink_desc j (swapL e j) (by omega) (by rw [swap_len]; exact hm) ⟨?_, ?_⟩ a b hab hb
      · intro a b hab hb ha hbj
        rw [swap_at (by omega), swap_at (by omega), if_neg hbj, if_neg ha]
        by_cases hb1 : b = j + 1
        · subst hb1
          rw [if_pos rfl, if_neg (by omega)]
          exact h.rest a j (by omega) (by omega) (by omega) (by omega)
        · rw [if_neg hb1]
          by_cases ha1 : a = j + 1
          · subst ha1
            rw [if_pos rfl]
            exact h.rest j b (by omega) hb (by omega) hb1
          · rw [if_neg ha1]
            exact h.rest a b hab hb ha1 hb1
      · intro b hb hbm
        rw [swap_at (by omega), swap_at (by omega), if_pos rfl, if_neg (by omega)]
        by_cases hb1 : b = j + 1
        · subst hb1; rw [if_pos rfl]; omega
        · rw [if_neg hb1]
          exact h.here b (by omega) hbm
    · rw [if_neg hlt]
      by_cases ha : a = j + 1
      · subst ha; exact h.here b hab hb
      · by_cases hb1 : b = j + 1
        · subst hb1
          by_cases haj : a = j
          · subst haj; omega
          · have := h.rest a j (by omega) (by omega) (by omega) (by omega)
            omega
        · exact h.rest a b hab hb ha hb1
theorem f131_sign (a b : Int) : ∃ c, f131 a b = some c ∧ (decide (c < 0) = decide (b < a)) := by
  unfold f131 f151 f163
  simp only [obind_at, cond_false]
  by_cases h1 : b < a
  · exact ⟨-1, by simp [h1], by simp [h1]⟩
  · by_cases h2 : a < b
    · exact ⟨1, by simp [h1, h2], by simp [h1]⟩
    · exact ⟨0, by simp [h1, h2], by simp [h1]⟩
theorem s153_1_eq (v : List Int) (n : Nat) (hn : n = v.length) (a2 : Int) (s0 t0 : Int × List Int) : s153_1 n 0 a2 s0 = s132_1 v t0 := by
  subst hn
  funext s1
  unfold s153_1 s132_1
  cases decide (0 < s1.1) with
  | false => rfl
  | true =>
    simp only [cond_true]
    cases h1 : idxM v.length s1.2 s1.1 with
    | none => rfl
    | some x =>
      simp only [obind_at]
      cases h2 : idxM v.length s1.2 (wrapF .i64 (s1.1 - 1)) with
      | none => rfl
      | some y =>
        obtain ⟨c, hc, hs⟩ := f131_sign x y
        simp only [obind_at, hc, hs]
theorem wrap_pred {j : Nat} (h : j < 1000) : wrapF .i64 (((j + 1 : Nat) : Int) - 1) = (j : Int) := by
  rw [wrapF_i64 (by omega) (by omega)]; omega
theorem in132 (v : List Int) (t0 : Int × List Int) (hv : v.length ≤ 100) : ∀ (j : Nat) (e : List Int), e.length = v.length → j < v.length → ∃ i, itO (s132_1 v t0) ((j : Int), e) = some (i, sink j e)
  | 0, e, he, hj => by
    refine ⟨0, ?_⟩
    rw [Int.natCast_zero]
    exact itO_out rfl
  | j + 1, e, he, hj => by
    have hlt : (0 : Int) < ((j + 1 : Nat) : Int) := by omega
    have g1 : e[j + 1]? = some (e.getD (j + 1) 0) := by rw [List.getD_eq_getElem?_getD, List.getElem?_eq_getElem (by omega)]; rfl
    have g2 : e[j]? = some (e.getD j 0) := by rw [List.getD_eq_getElem?_getD, List.getElem?_eq_getElem (by omega)]; rfl
    have hw := wrap_pred (j := j) (by omega)
    by_cases h : e.getD j 0 < e.getD (j + 1) 0
    · obtain ⟨i, hi⟩ := in132 v t0 hv j (swapL e j) (by rw [swap_len]; exact he) (by omega)
      refine ⟨i, ?_⟩
      have g3 : (e.set (j + 1) (e.getD j 0))[j]? = some (e.getD j 0) := by
        rw [List.getElem?_set_ne (by omega)]; exact g2
      have hs : s132_1 v t0 (((j + 1 : Nat) : Int), e) = some (.inl ((j : Int), swapL e j)) := by
        unfold s132_1
        simp only [hlt, decide_true, cond_true, idxM_at hj, g1, obind_at, hw, idxM_at (show j < v.length by omega), g2, h, Int.toNat_natCast, g3]
        rfl
      rw [itO_in hs, hi]
      simp only [sink, h, if_true]
    · refine ⟨((j + 1 : Nat) : Int), ?_⟩
      refine itO_out ?_
      unfold s132_1
      simp only [hlt, decide_true, cond_true, idxM_at hj, g1, obind_at, hw, idxM_at (show j < v.length by omega), g2, h, decide_false, cond_false, sink, if_false]
def sortTo (w : List Int) : Nat → List Int
  | 0 => w
  | i + 1 => sink i (sortTo w i)
theorem sortTo_len (w : List Int) : ∀ i, (sortTo w i).length = w.length
  | 0 => rfl
  | i + 1 => by rw [sortTo, sink_len, sortTo_len w i]
theorem out132 (v : List Int) (hv : v.length ≤ 100) : ∀ (k i : Nat), i + k = v.length → ∃ d, itO (s132_0 v) ((i : Int), sortTo v i) = some (d, sortTo v v.length)
  | 0, i, hi => by
    have : i = v.length := by omega
    subst this
    exact ⟨(v.length : Int), itO_out (by unfold s132_0; simp)⟩
  | k + 1, i, hi => by
    obtain ⟨d, hd⟩ := out132 v hv k (i + 1) (by omega)
    refine ⟨d, ?_⟩
    obtain ⟨j, hj⟩ := in132 v ((i : Int), sortTo v i) hv i (sortTo v i) (sortTo_len v i) (by omega)
    have hlt : (i : Int) < (v.length : Int) := by omega
    have hs : s132_0 v ((i : Int), sortTo v i) = some (.inl (((i + 1 : Nat) : Int), sortTo v (i + 1))) := by
      unfold s132_0
      simp only [hlt, decide_true, cond_true, hj, obind_at, wrap_nat (show i < 9223372036854775807 by omega)]
      rfl
    rw [itO_in hs, hd]
theorem s153_0_eq (v : List Int) (n : Nat) (hn : n = v.length) : s153_0 n 0 (n : Int) = s132_0 v := by
  funext s0
  unfold s153_0 s132_0
  rw [s153_1_eq v n hn (n : Int) s0 s0, hn]
theorem f153_eq (v : List Int) (hv : v.length ≤ 100) : f153 v.length 0 (v.length : Int) v = some (sortTo v v.length) := by
  unfold f153
  have w1 : wrapF .i64 (0 + 1) = ((0 + 1 : Nat) : Int) := by decide
  rw [s153_0_eq v _ rfl, w1]
  cases hc : v with
  | nil =>
    have : itO (s132_0 []) (((0 + 1 : Nat) : Int), ([] : List Int)) = some (((0 + 1 : Nat) : Int), []) := itO_out (by unfold s132_0; simp)
    rw [this]; rfl
  | cons x t =>
    rw [← hc]
    obtain ⟨d, hd⟩ := out132 v hv (v.length - 1) 1 (by rw [hc]; simp; omega)
    have e1 : sortTo v 1 = v := rfl
    rw [e1] at hd
    rw [hd]; rfl
theorem f132_eq {o : Option (List Int)} (h : (o.getD []).length ≤ 100) : f132 o = some (some (sortTo (o.getD []) (o.getD []).length)) := by
  unfold f132
  have hc : capO (o.getD []) = some (o.getD []) := by unfold capO; rw [if_pos (by omega)]
  obtain ⟨d, hd⟩ := out132 (o.getD []) h (o.getD []).length 0 (by omega)
  have e0 : sortTo (o.getD []) 0 = o.getD [] := rfl
  rw [e0, Int.natCast_zero] at hd
  have ht : takeM (o.getD []).length (sortTo (o.getD []) (o.getD []).length) = some (sortTo (o.getD []) (o.getD []).length) := by
    unfold takeM
    rw [sortTo_len, if_pos (Nat.le_refl _), List.take_of_length_le (by rw [sortTo_len]; omega)]
  simp only [hc, obind_at, hd, ht]
theorem f150_some {n : Nat} (h : n ≤ 8) : ∃ v, f150 (wrapF .u64 (n : Int)) = some v := by
  have hn : n = 0 ∨ n = 1 ∨ n = 2 ∨ n = 3 ∨ n = 4 ∨ n = 5 ∨ n = 6 ∨ n = 7 ∨ n = 8 := by omega
  rcases hn with rfl | rfl | rfl | rfl | rfl | rfl | rfl | rfl | rfl <;> exact ⟨_, rfl⟩
theorem f130_eq (v : List Int) (hv : v.length ≤ 8) : f130 v.length v = some (sortTo v v.length) := by
  obtain ⟨c, hc⟩ := f150_some hv
  have h149 : f149 v.length 0 (v.length : Int) c v = some (sortTo v v.length) := by
    unfold f149
    have hw : wrapF .i64 ((v.length : Int) - 0) = (v.length : Int) := by rw [wrapF_i64 (by omega) (by omega)]; omega
    have hs : s149_0 v.length 0 (v.length : Int) c v () = some (.inr (sortTo v v.length)) := by
      unfold s149_0
      simp only [hw, show (v.length : Int) ≤ 12 by omega, decide_true, cond_true, f153_eq v (by omega), obind_at]
    rw [itO_out hs]; rfl
  unfold f130
  simp only [hc, obind_at, h149]
theorem sortTo_sum (w : List Int) : ∀ i, i ≤ w.length → sumI (sortTo w i) = sumI w
  | 0, _ => rfl
  | i + 1, h => by rw [sortTo, sink_sum _ _ (by rw [sortTo_len]; omega), sortTo_sum w i (by omega)]
theorem sortTo_all {P : Int → Prop} (w : List Int) (hp : ∀ x ∈ w, P x) : ∀ i, i ≤ w.length → ∀ x ∈ sortTo w i, P x
  | 0, _ => hp
  | i + 1, h => sink_all _ _ (by rw [sortTo_len]; omega) (sortTo_all w hp i (by omega))
theorem sortTo_desc (w : List Int) : ∀ i, i ≤ w.length → ∀ a b, a < b → b < i → (sortTo w i).getD b 0 ≤ (sortTo w i).getD a 0
  | 0, _, a, b, _, hb => absurd hb (by omega)
  | i + 1, h, a, b, hab, hb => by
    have ih := sortTo_desc w i (by omega)
    rw [sortTo]
    refine sink_desc (m := i) i (sortTo w i) (Nat.le_refl _) (by rw [sortTo_len]; omega) ⟨?_, ?_⟩ a b hab (by omega)
    · intro a b hab hb ha hbi
      exact ih a b hab (by omega)
    · intro b h1 h2
      omega
theorem in76 {ow : Option (List Int)} {w : List Int} {k : Int} (h : ow.getD [] = w) (hw : WorkOk w) : ∃ i, itO (s76_0 ow k) (0, 0, List.replicate w.length 0) = some (sumI w, i, w) := by
  have key : ∀ (m i : Nat) (e : List Int), i + m = w.length → e.length = w.length → (∀ j, j < i → e[j]? = w[j]?) → ∃ d, itO (s76_0 ow k) (sumI (w.take i), (i : Int), e) = some (sumI w, d, w) := by
    intro m
    induction m with
    | zero =>
      intro i e hi he hp
      have : i = w.length := by omega
      subst this
      have hew : e = w := by
        apply List.ext_getElem?
        intro j
        by_cases hj : j < w.length
        · exact hp j hj
        · rw [List.getElem?_eq_none (by omega), List.getElem?_eq_none (by omega)]
      subst hew
      exact ⟨(e.length : Int), itO_out (by unfold s76_0; simp [h])⟩
    | succ m ih =>
      intro i e hi he hp
      obtain ⟨x, hx⟩ : ∃ x, w[i]? = some x := ⟨_, List.getElem?_eq_getElem (by omega)⟩
      obtain ⟨y, hy⟩ : ∃ y, e[i]? = some y := ⟨_, List.getElem?_eq_getElem (by omega)⟩
      have hlen := hw.len
      have hxb1 := hw.low x (List.mem_of_getElem? hx)
      have hxb2 := hw.high x (List.mem_of_getElem? hx)
      have hsb := sumI_bounds (lo := 1) (hi := 100000) (l := w.take i) fun z hz => ⟨hw.low z (List.mem_of_mem_take hz), hw.high z (List.mem_of_mem_take hz)⟩
      have htl : (w.take i).length = i := by rw [List.length_take]; omega
      rw [htl] at hsb
      have hsum : sumI (w.take (i + 1)) = sumI (w.take i) + x := by rw [List.take_add_one, hx]; exact sumI_snoc _ _
      obtain ⟨d, hd⟩ := ih (i + 1) (e.set i x) (by omega) (by simp [he]) (by
        intro j hj
        rw [List.getElem?_set]
        by_cases hji : i = j
        · subst hji; rw [if_pos rfl, if_pos (by omega), hx]
        · rw [if_neg hji]; exact hp j (by omega))
      refine ⟨d, ?_⟩
      have hlt : (i : Int) < (w.length : Int) := by omega
      have hs : s76_0 ow k (sumI (w.take i), (i : Int), e) = some (.inl (sumI (w.take (i + 1)), ((i + 1 : Nat) : Int), e.set i x)) := by
        unfold s76_0
        simp only [h, hlt, decide_true, cond_true, idxO_nat, hx, obind_at, idxM_at (show i < w.length by omega), hy, wrap_nat (show i < 9223372036854775807 by omega), wrapF_i64 (show -9223372036854775808 ≤ sumI (w.take i) + x by omega) (by omega), hsum, Int.toNat_natCast]
      rw [itO_in hs, hd]
  obtain ⟨d, hd⟩ := key w.length 0 (List.replicate w.length 0) (by omega) (by simp) (by intro j hj; omega)
  exact ⟨d, by simpa [sumI] using hd⟩
def top0 (l : List Int) : Int := l.foldl max 0
theorem in79 {o : Option (List Int)} {k : Int} (hl : (o.getD []).length ≤ 8) (h1 : ∀ x ∈ o.getD [], 1 ≤ x ∧ x ≤ 100000) : ∃ i, itO (s79_0 k o) (0, 0, 0) = some (sumI (o.getD []), top0 (o.getD []), i) := by
  have key := itO_list (δ := Int × Int × Int) (ε := Empty) (o.getD []) (s79_0 k o) (fun i (s : Int × Int) => (s.1, s.2, (i : Int))) (fun _ s x => .inl (s.1 + x, max s.2 x)) (fun s => (s.1, s.2, ((o.getD []).length : Int))) (fun d => nomatch d) (fun i s => s.1 = sumI ((o.getD []).take i)) (0, 0) ?_ ?_ rfl
  · have hr : runL (δ := Empty) (fun _ (s : Int × Int) x => .inl (s.1 + x, max s.2 x)) 0 (0, 0) (o.getD []) = .inl (sumI (o.getD []), top0 (o.getD [])) := by
      rw [show (fun (_ : Nat) (s : Int × Int) (x : Int) => (Sum.inl (s.1 + x, max s.2 x) : (Int × Int) ⊕ Empty)) = fun _ s x => .inl ((fun (s : Int × Int) x => (s.1 + x, max s.2 x)) s x) from rfl, runL_fold]
      congr 1
      have : ∀ (l : List Int) (a b : Int), l.foldl (fun (s : Int × Int) x => (s.1 + x, max s.2 x)) (a, b) = (l.foldl (· + ·) a, l.foldl max b) := by
        intro l
        induction l with
        | nil => intro a b; rfl
        | cons y l ih => intro a b; rw [List.foldl_cons, ih]; rfl
      rw [this, sumI_fold]
      simp [top0]
    rw [hr, Int.natCast_zero] at key
    exact ⟨_, key⟩
  · intro s _
    unfold s79_0
    simp
  · intro i s x hx hi hs
    have hlt : (i : Int) < ((o.getD []).length : Int) := by omega
    have hb := h1 x (List.mem_of_getElem? hx)
    have hsb := sumI_bounds (lo := 1) (hi := 100000) (l := (o.getD []).take i) fun z hz => h1 z (List.mem_of_mem_take hz)
    have htl : ((o.getD []).take i).length = i := by rw [List.length_take]; omega
    rw [htl, ← hs] at hsb
    refine ⟨by rw [List.take_add_one, hx, hs]; exact (sumI_snoc _ _).symm, ?_⟩
    unfold s79_0
    simp only [hlt, decide_true, cond_true, idxO_nat, hx, obind_at, wrap_nat (show i < 9223372036854775807 by omega), wrapF_i64 (show -9223372036854775808 ≤ s.1 + x by omega) (by omega)]
theorem top_head {l : List Int} {x : Int} {t : List Int} (hl : l = x :: t) (hd : ∀ a b, a < b → b < l.length → l.getD b 0 ≤ l.getD a 0) (hx : 0 ≤ x) : top0 l = x := by
  subst hl
  have : ∀ (t : List Int) (a : Int), (∀ y ∈ t, y ≤ a) → t.foldl max a = a := by
    intro t
    induction t with
    | nil => intro a _; rfl
    | cons y t ih =>
      intro a h
      rw [List.foldl_cons, show max a y = a by have := h y (List.mem_cons_self ..); omega]
      exact ih a fun z hz => h z (List.mem_cons_of_mem _ hz)
  unfold top0
  rw [List.foldl_cons, show max 0 x = x by omega]
  refine this t x fun y hy => ?_
  obtain ⟨i, hi⟩ := List.getElem?_of_mem hy
  have hil := (List.getElem?_eq_some_iff.1 hi).1
  have := hd 0 (i + 1) (by omega) (by simp; omega)
  simpa [List.getD_eq_getElem?_getD, hi] using this
def boundV (w : List Int) (k : Nat) : Int :=
  max (max (top0 (sortTo w w.length)) ((sumI w + k - 1) / k)) (if k < w.length then (sortTo w w.length).getD (k - 1) 0 + (sortTo w w.length).getD k 0 else 0)
theorem quo_eq {s : Int} {k : Nat} (hs : 0 ≤ s) (hs2 : s ≤ 1000000) (h1 : 1 ≤ k) (h4 : k ≤ 4) : quoO .i64 (wrapF .i64 (wrapF .i64 (s + (k : Int)) - 1)) (k : Int) = some ((s + k - 1) / k) := by
  rw [wrapF_i64 (show -9223372036854775808 ≤ s + (k : Int) by omega) (by omega), wrapF_i64 (by omega) (by omega)]
  unfold quoO
  rw [if_neg (by omega), Int.tdiv_eq_ediv_of_nonneg (by omega)]
  have h2 : 0 ≤ (s + k - 1) / (k : Int) := Int.ediv_nonneg (by omega) (by omega)
  have h3 : (s + k - 1) / (k : Int) ≤ s + k - 1 := Int.ediv_le_self _ (by omega)
  rw [wrapF_i64 (by omega) (by omega)]
theorem bound_both {ow : Option (List Int)} {w : List Int} {k : Nat} (h : ow.getD [] = w) (hw : WorkOk w) (h1 : 1 ≤ k) (h4 : k ≤ 4) (hz : workE w (k : Int) = 0) : f76 ow (k : Int) = some (boundV w k, 0) ∧ f79 ow (k : Int) = some (boundV w k) := by
  have hlen := hw.len
  have hb : ∀ x ∈ w, 1 ≤ x ∧ x ≤ 100000 := fun x hx => ⟨hw.low x hx, hw.high x hx⟩
  have hsb := sumI_bounds hb
  have hs0 : 0 ≤ sumI w := by omega
  have hs1 : sumI w ≤ 1000000 := by omega
  have hq := quo_eq hs0 hs1 h1 h4
  have hsl := sortTo_len w w.length
  have hsall := sortTo_all w hb w.length (Nat.le_refl _)
  have hdesc := sortTo_desc w w.length (Nat.le_refl _)
  have hssum := sortTo_sum w w.length (Nat.le_refl _)
  have hg : ∀ i, i < w.length → (sortTo w w.length)[i]? = some ((sortTo w w.length).getD i 0) := fun i hi => by
    rw [List.getD_eq_getElem?_getD, List.getElem?_eq_getElem (by rw [hsl]; exact hi)]; rfl
  have hgb : ∀ i, i < w.length → 1 ≤ (sortTo w w.length).getD i 0 ∧ (sortTo w w.length).getD i 0 ≤ 100000 := fun i hi => hsall _ (List.mem_of_getElem? (hg i hi))
  have hqn : 0 ≤ (sumI w + k - 1) / (k : Int) := Int.ediv_nonneg (by omega) (by omega)
  have htop : w.length ≠ 0 → top0 (sortTo w w.length) = (sortTo w w.length).getD 0 0 := by
    intro hne
    obtain ⟨x, t, hxt⟩ : ∃ x t, sortTo w w.length = x :: t := by
      cases hc : sortTo w w.length with
      | nil => rw [hc] at hsl; simp at hsl; omega
      | cons x t => exact ⟨x, t, rfl⟩
    have hx : (sortTo w w.length).getD 0 0 = x := by rw [hxt]; rfl
    have := hgb 0 (by omega)
    rw [hx] at this ⊢
    exact top_head hxt (fun a b hab hbl => hdesc a b hab (by rw [hsl] at hbl; exact hbl)) (by omega)
  constructor
  · unfold f76
    obtain ⟨i, hi⟩ := in76 (k := (k : Int)) h hw
    have hmk : mkO w.length = some (List.replicate w.length 0) := by unfold mkO; rw [if_pos (by omega)]
    simp only [f125_eq (o := ow) (k := (k : Int)) (by rw [h]; omega), h, obind_at, hz, decide_true, cond_true, hmk, hi, f130_eq w hlen, hq]
    by_cases hn : w.length = 0
    · have hw0 : w = [] := List.length_eq_zero_iff.1 hn
      subst hw0
      have e1 : ¬ (k : Int) < 0 := by omega
      have e2 : ¬ k < 0 := by omega
      simp only [List.length_nil, Int.natCast_zero, Int.lt_irrefl, decide_false, cond_false, e1]
      unfold boundV
      simp only [List.length_nil, e2, if_false, sortTo, top0, List.foldl_nil]
      congr 2
      omega
    · have e0 : (0 : Int) < (w.length : Int) := by omega
      have i0 : idxM w.length (sortTo w w.length) 0 = some ((sortTo w w.length).getD 0 0) := by
        have := idxM_at (n := w.length) (l := sortTo w w.length) (i := 0) (by omega)
        rw [Int.natCast_zero] at this
        rw [this, hg 0 (by omega)]
      simp only [e0, decide_true, cond_true, i0, obind_at]
      unfold boundV
      rw [htop hn]
      by_cases hk : k < w.length
      · have e1 : (k : Int) < (w.length : Int) := by omega
        have hkm : wrapF .i64 ((k : Int) - 1) = ((k - 1 : Nat) : Int) := by rw [wrapF_i64 (by omega) (by omega)]; omega
        have b1 := hgb (k - 1) (by omega); have b2 := hgb k hk
        simp only [e1, decide_true, cond_true, hkm, idxM_at (show k - 1 < w.length by omega), hg (k - 1) (by omega), idxM_at hk, hg k hk, obind_at, wrapF_i64 (show -9223372036854775808 ≤ (sortTo w w.length).getD (k - 1) 0 + (sortTo w w.length).getD k 0 by omega) (by omega), hk, if_true]
        congr 2
        omega
      · have e1 : ¬ (k : Int) < (w.length : Int) := by omega
        simp only [e1, decide_false, cond_false, hk, if_false]
        congr 2
        omega
  · unfold f79
    have hf := f132_eq (o := ow) (by rw [h]; omega)
    rw [h] at hf
    obtain ⟨i, hi⟩ := in79 (o := some (sortTo w w.length)) (k := (k : Int)) (by simp [hsl]; omega) (by simpa using hsall)
    simp only [Option.getD_some, hssum] at hi
    simp only [hf, obind_at, hi, hq, Option.getD_some, hsl]
    unfold boundV
    by_cases hk : k < w.length
    · have e1 : (k : Int) < (w.length : Int) := by omega
      have hkm : wrapF .i64 ((k : Int) - 1) = ((k - 1 : Nat) : Int) := by rw [wrapF_i64 (by omega) (by omega)]; omega
      have b1 := hgb (k - 1) (by omega); have b2 := hgb k hk
      simp only [e1, decide_true, cond_true, hkm, idxO_nat, hg (k - 1) (by omega), hg k hk, obind_at, wrapF_i64 (show -9223372036854775808 ≤ (sortTo w w.length).getD (k - 1) 0 + (sortTo w w.length).getD k 0 by omega) (by omega), hk, if_true]
    · have e1 : ¬ (k : Int) < (w.length : Int) := by omega
      simp only [e1, decide_false, cond_false, hk, if_false]
      congr 1
      omega
end Go.Z
/-
  LineBenches: its law holds of the functions that mirror the runs.
-/
set_option maxRecDepth 100000
set_option linter.unusedSimpArgs false
set_option linter.unusedVariables false
namespace Go.Z
open Go Go.Abs
theorem ownI_getD (o : Option (List Int)) : (ownI o).getD [] = o.getD [] := rfl
end Go.Z
