/-
  LinePairs: the reference's search finds the best of all, too.
-/
import Derived.Test.YtbkpojiedkhfkaaGreatQ8
import Derived.Test.YtbkpojiedkhfkaaGreatQ5
import Derived.Test.YtbkpojiedkhfkaaGreatQ4
set_option linter.unusedVariables false
set_option linter.unusedSimpArgs false
set_option maxRecDepth 100000
set_option linter.unusedSimpArgs false
set_option linter.unusedVariables false
namespace Go.Z
open Go Go.Abs
def lf : Nat → List Bool → List Int
  | _, [] => []
  | i, true :: us => lf (i + 1) us
  | i, false :: us => (i : Int) :: lf (i + 1) us
theorem lf_in : ∀ (us : List Bool) (i : Nat), ∀ x ∈ lf i us, (i : Int) ≤ x ∧ x < (i : Int) + us.length
  | [], i, x, h => by cases h
  | true :: us, i, x, h => by
    have := lf_in us (i + 1) x h
    simp only [List.length_cons]; omega
  | false :: us, i, x, h => by
    simp only [lf, List.mem_cons] at h
    simp only [List.length_cons]
    rcases h with rfl | h
    · omega
    · have := lf_in us (i + 1) x h
      omega
theorem lf_nodup : ∀ (us : List Bool) (i : Nat), (lf i us).Nodup
  | [], i => List.nodup_nil
  | true :: us, i => lf_nodup us (i + 1)
  | false :: us, i => by
    refine List.nodup_cons.2 ⟨fun h => ?_, lf_nodup us (i + 1)⟩
    have := (lf_in us (i + 1) _ h).1
    omega
theorem lf_ok (us : List Bool) : LeftOk us.length (lf 0 us) := ⟨lf_nodup us 0, fun x hx => by have := lf_in us 0 x hx; omega⟩
theorem lf_set : ∀ (us : List Bool) (i j : Nat), j < us.length → lf i (us.set j true) = (lf i us).filter fun x => x != ((i + j : Nat) : Int)
  | [], i, j, h => by simp at h
  | u :: us, i, 0, h => by
    have hf : (lf (i + 1) us).filter (fun x => x != ((i + 0 : Nat) : Int)) = lf (i + 1) us := by
      rw [List.filter_eq_self]
      intro x hx
      have := (lf_in us (i + 1) x hx).1
      have hne : x ≠ ((i + 0 : Nat) : Int) := by omega
      exact bne_iff_ne.2 hne
    cases u with
    | true => show lf (i + 1) us = (lf (i + 1) us).filter _; rw [hf]
    | false =>
      show lf (i + 1) us = ((i : Int) :: lf (i + 1) us).filter _
      rw [List.filter_cons]
      have hb : ((i : Int) != ((i + 0 : Nat) : Int)) = false := by simp
      rw [hb, hf]
      rfl
  | u :: us, i, j + 1, h => by
    have ih := lf_set us (i + 1) j (by simpa using h)
    have he : ((i + 1 + j : Nat) : Int) = ((i + (j + 1) : Nat) : Int) := by omega
    rw [he] at ih
    cases u with
    | true => exact ih
    | false =>
      show (i : Int) :: lf (i + 1) (us.set j true) = ((i : Int) :: lf (i + 1) us).filter _
      rw [List.filter_cons, ih]
      have hne : (i : Int) ≠ ((i + (j + 1) : Nat) : Int) := by omega
      have hb : ((i : Int) != ((i + (j + 1) : Nat) : Int)) = true := bne_iff_ne.2 hne
      rw [if_pos hb]
theorem lf_drop {us : List Bool} {i : Nat} (h : i < us.length) : lf i (us.drop i) = if us[i] = true then lf (i + 1) (us.drop (i + 1)) else (i : Int) :: lf (i + 1) (us.drop (i + 1)) := by
  rw [List.drop_eq_getElem_cons h]
  cases us[i] <;> rfl
theorem lf_end {us : List Bool} {i : Nat} (h : us.length ≤ i) : lf i (us.drop i) = [] := by rw [List.drop_eq_nil_of_le h]; rfl
theorem first_free {ou : Option (List Bool)} {us : List Bool} (h : ou.getD [] = us) (hn : us.length ≤ 1000) : ∀ (m i : Nat), i + m = us.length →
    ∃ a : Nat, itO (s123_0 ou (us.length : Int)) (i : Int) = some (a : Int) ∧ ((a = us.length ∧ lf i (us.drop i) = []) ∨ (a < us.length ∧ lf i (us.drop i) = (a : Int) :: lf (a + 1) (us.drop (a + 1))))
  | 0, i, hi => by
    have : i = us.length := by omega
    subst this
    exact ⟨us.length, itO_out (by unfold s123_0; simp), .inl ⟨rfl, lf_end (Nat.le_refl _)⟩⟩
  | m + 1, i, hi => by
    have hil : i < us.length := by omega
    have hlt : (i : Int) < (us.length : Int) := by omega
    have hd := lf_drop hil
    cases hu : us[i] with
    | true =>
      have e : s123_0 ou (us.length : Int) (i : Int) = some (.inl ((i + 1 : Nat) : Int)) := by
        unfold s123_0
        simp only [hlt, decide_true, cond_true, h, idxO_nat, List.getElem?_eq_getElem hil, obind_at, hu, wrap_nat (show i < 9223372036854775807 by omega)]
      rw [hu, if_pos rfl] at hd
      rw [itO_in e, hd]
      exact first_free h hn m (i + 1) (by omega)
    | false =>
      have e : s123_0 ou (us.length : Int) (i : Int) = some (.inr (i : Int)) := by
        unfold s123_0
        simp only [hlt, decide_true, cond_true, h, idxO_nat, List.getElem?_eq_getElem hil, obind_at, hu, cond_false]
      rw [hu, if_neg (by simp)] at hd
      exact ⟨i, itO_out e, .inr ⟨hil, hd⟩⟩
def RelW (st : Option PSch) (best : Option (List GPair)) (worst : Int) : Prop := match st with
  | none => worst = -1 ∧ best = none
  | some s => best.getD [] = s.1 ∧ worst = s.2 ∧ 0 ≤ s.2
section
variable {l : List GUnit} {o : Option (List GUnit)} {rec : Rec3}
def RecW (l : List GUnit) (o : Option (List GUnit)) (m : Nat) (rec : Rec3) : Prop :=
  ∀ (ou : Option (List Bool)) (op : Option (List GPair)), (ou.getD []).length = l.length → (lf 0 (ou.getD [])).length = 2 * m → PairsIn l.length (op.getD []) → (op.getD []).length + m ≤ 100 →
    ∃ r, rec o ou op = some r ∧ r.1.getD [] = (bestP l m (lf 0 (ou.getD [])) (op.getD [])).1 ∧ r.2 = (bestP l m (lf 0 (ou.getD [])) (op.getD [])).2
theorem loop123 (hu : UnitsOk l) (ho : o.getD [] = l) (hl : l.length ≤ 1000) {m : Nat} (hrec : RecW l o m rec) {ou : Option (List Bool)} {us : List Bool} {op : Option (List GPair)} (hou : ou.getD [] = us) (hul : us.length = l.length)
    (hp : PairsIn l.length (op.getD [])) (hpl : (op.getD []).length + (m + 1) ≤ 100) {a : Nat} (ha : a < us.length) (hleft : lf 0 us = (a : Int) :: lf (a + 1) (us.drop (a + 1))) (hlen : (lf 0 us).length = 2 * (m + 1)) :
    ∀ (j b : Nat) (st : Option PSch) (best : Option (List GPair)) (worst : Int), b + j = us.length → a < b → (∀ x ∈ lf b (us.drop b), x ∈ (lf 0 us).tail) → RelW st best worst →
      ∃ best' worst', itO (s123_1 rec o ou op (a : Int)) (best, worst, (b : Int)) = some (best', worst', (us.length : Int)) ∧
        RelW ((lf b (us.drop b)).foldl (fun st b => updG st (bestP l m ((lf 0 us).tail.filter fun x => x != b) (op.getD [] ++ [⟨(lf 0 us).headD 0, b⟩]))) st) best' worst'
  | 0, b, st, best, worst, hb, hab, _, hr => by
    have : b = us.length := by omega
    subst this
    refine ⟨best, worst, itO_out ?_, by rw [lf_end (Nat.le_refl _)]; exact hr⟩
    have hlt : ¬ (us.length : Int) < (l.length : Int) := by omega
    unfold s123_1
    simp only [ho, hlt, decide_false, cond_false]
  | j + 1, b, st, best, worst, hb, hab, hin, hr => by
    have hbl : b < us.length := by omega
    have hlt : (b : Int) < (l.length : Int) := by omega
    have hd := lf_drop hbl
    have hw : wrapF .i64 ((b : Int) + 1) = ((b + 1 : Nat) : Int) := wrap_nat (by omega)
    cases hub : us[b] with
    | true =>
      rw [hub, if_pos rfl] at hd
      have e : s123_1 rec o ou op (a : Int) (best, worst, (b : Int)) = some (.inl (best, worst, ((b + 1 : Nat) : Int))) := by
        unfold s123_1
        simp only [ho, hlt, decide_true, cond_true, hou, idxO_nat, List.getElem?_eq_getElem hbl, obind_at, hub, hw]
      rw [hd] at hin ⊢
      obtain ⟨b', w', e2, r2⟩ := loop123 hu ho hl hrec hou hul hp hpl ha hleft hlen j (b + 1) st best worst (by omega) (by omega) hin hr
      exact ⟨b', w', by rw [itO_in e]; exact e2, r2⟩
    | false =>
      rw [hub, if_neg (by simp)] at hd
      rw [hd] at hin ⊢
      have hbt : (b : Int) ∈ (lf 0 us).tail := hin _ (List.mem_cons_self ..)
      have hset : lf 0 ((us.set a true).set b true) = (lf 0 us).tail.filter fun x => x != (b : Int) := by
        rw [lf_set _ 0 b (by rw [List.length_set]; exact hbl), lf_set _ 0 a ha]
        have e1 : (lf 0 us).filter (fun x => x != ((0 + a : Nat) : Int)) = (lf 0 us).tail := by
          rw [hleft, List.filter_cons]
          have hb0 : ((a : Int) != ((0 + a : Nat) : Int)) = false := by simp
          rw [hb0]
          simp only [Bool.false_eq_true, if_false, List.tail_cons]
          rw [List.filter_eq_self]
          intro x hx
          have := (lf_in _ _ x hx).1
          have hne : x ≠ ((0 + a : Nat) : Int) := by omega
          exact bne_iff_ne.2 hne
        rw [e1, Nat.zero_add]
      have hhead : (lf 0 us).headD 0 = (a : Int) := by rw [hleft]; rfl
      have hk := lf_ok us
      rw [hul] at hk
      have hin2 := pairs_in hk hp hbt
      rw [hhead] at hin2
      obtain ⟨r, hr1, hr2, hr3⟩ := hrec (some ((us.set a true).set b true)) (some (op.getD [] ++ [(⟨(a : Int), (b : Int)⟩ : GPair)])) (by simp [hul]) (by rw [Option.getD_some, hset]; exact next_len hk hlen hbt) hin2 (by simp; omega)
      simp only [Option.getD_some, hset] at hr2 hr3
      have hcap : capB us = some us := by unfold capB; rw [if_pos (by omega)]
      have hia : idxB us.length us (a : Int) = some us[a] := by unfold idxB; rw [if_pos (by omega)]; simp [ha]
      have hib : ∃ v, idxB us.length (us.set a true) (b : Int) = some v := by
        refine ⟨(us.set a true)[b]'(by rw [List.length_set]; exact hbl), ?_⟩
        unfold idxB
        rw [if_pos (by omega), Int.toNat_natCast]
        exact List.getElem?_eq_getElem _
      obtain ⟨v2, hib⟩ := hib
      have hpos : 0 ≤ (bestP l m ((lf 0 us).tail.filter fun x => x != (b : Int)) (op.getD [] ++ [⟨(lf 0 us).headD 0, (b : Int)⟩])).2 := by
        have := bestP_low hu m _ (op.getD [] ++ [⟨(lf 0 us).headD 0, (b : Int)⟩]) (hk.next _) (next_len hk hlen hbt)
        have h0 := (worst_bounds hu (op.getD [] ++ [⟨(lf 0 us).headD 0, (b : Int)⟩])).1
        omega
      rw [← hhead] at hr2 hr3
      have hstep : ∃ b1 w1, s123_1 rec o ou op (a : Int) (best, worst, (b : Int)) = some (.inl (b1, w1, ((b + 1 : Nat) : Int))) ∧ RelW (updG st (bestP l m ((lf 0 us).tail.filter fun x => x != (b : Int)) (op.getD [] ++ [⟨(lf 0 us).headD 0, (b : Int)⟩]))) b1 w1 := by
        have hun : s123_1 rec o ou op (a : Int) (best, worst, (b : Int)) = cond (decide (worst < 0)) (some (.inl (r.1, r.2, ((b + 1 : Nat) : Int)))) (cond (decide (r.2 < worst)) (some (.inl (r.1, r.2, ((b + 1 : Nat) : Int)))) (some (.inl (best, worst, ((b + 1 : Nat) : Int))))) := by
          unfold s123_1
          simp only [ho, hlt, decide_true, cond_true, hou, idxO_nat, List.getElem?_eq_getElem hbl, obind_at, hub, cond_false, hcap, hia, Int.toNat_natCast, hib, ap_nil _ (show (op.getD []).length ≤ 1073741824 by omega), ap_one _ _ (show (op.getD []).length + 1 ≤ 1073741824 by omega), hr1, hw]
        rw [hun]
        cases st with
        | none =>
          obtain ⟨rfl, rfl⟩ := hr
          exact ⟨r.1, r.2, rfl, hr2, hr3, hpos⟩
        | some s =>
          obtain ⟨hb1, rfl, hs0⟩ := hr
          have hn : ¬ s.2 < 0 := by omega
          by_cases hlt2 : r.2 < s.2
          · refine ⟨r.1, r.2, by simp only [hn, hlt2, decide_false, decide_true, cond_false, cond_true], ?_⟩
            unfold updG
            simp only []
            rw [if_pos (by omega)]
            exact ⟨hr2, hr3, hpos⟩
          · refine ⟨best, s.2, by simp only [hn, hlt2, decide_false, cond_false], ?_⟩
            unfold updG
            simp only []
            rw [if_neg (by omega)]
            exact ⟨hb1, rfl, hs0⟩
      obtain ⟨b1, w1, e1, r1⟩ := hstep
      obtain ⟨b', w', e2, r2⟩ := loop123 hu ho hl hrec hou hul hp hpl ha hleft hlen j (b + 1) _ b1 w1 (by omega) (by omega) (fun x hx => hin x (List.mem_cons_of_mem _ hx)) r1
      exact ⟨b', w', by rw [itO_in e1]; exact e2, by rw [List.foldl_cons]; exact r2⟩
theorem f123_eq (hu : UnitsOk l) (ho : o.getD [] = l) (hl : l.length ≤ 1000) : ∀ (m n : Nat), m < n → RecW l o m (f123 n)
  | m, n + 1, hmn => by
    intro ou op hul hlen hp hpl
    obtain ⟨a, h1, hcase⟩ := first_free (ou := ou) rfl (by omega) (ou.getD []).length 0 (by omega)
    rw [Int.natCast_zero, hul] at h1
    rw [List.drop_zero] at hcase
    show ∃ r, F123 (f123 n) o ou op = some r ∧ _
    unfold F123
    rw [ho, h1]
    simp only [obind_at]
    cases m with
    | zero =>
      have hnil : lf 0 (ou.getD []) = [] := List.length_eq_zero_iff.1 (by omega)
      have ha : a = l.length := by
        rcases hcase with ⟨h, _⟩ | ⟨_, h⟩
        · omega
        · rw [hnil] at h; cases h
      subst ha
      have h71 := f71_eq ho (op := op) rfl hu hp (by omega)
      simp only [decide_true, cond_true, h71, obind_at]
      exact ⟨_, rfl, rfl, rfl⟩
    | succ m =>
      have ha : a < (ou.getD []).length ∧ lf 0 (ou.getD []) = (a : Int) :: lf (a + 1) ((ou.getD []).drop (a + 1)) := by
        rcases hcase with ⟨_, h⟩ | h
        · rw [h] at hlen; simp at hlen
        · exact h
      obtain ⟨ha, hleft⟩ := ha
      have hne : ¬ (a : Int) = (l.length : Int) := by omega
      have hw : wrapF .i64 ((a : Int) + 1) = ((a + 1 : Nat) : Int) := wrap_nat (by omega)
      have htail : (lf 0 (ou.getD [])).tail = lf (a + 1) ((ou.getD []).drop (a + 1)) := by rw [hleft]; rfl
      obtain ⟨b', w', e, r⟩ := loop123 hu ho hl (f123_eq hu ho hl m n (by omega)) (ou := ou) rfl hul hp hpl ha hleft hlen ((ou.getD []).length - (a + 1)) (a + 1) none none (-1) (by omega) (by omega) (by rw [htail]; exact fun x hx => hx) ⟨rfl, rfl⟩
      rw [← htail, bestP_fold hlen] at r
      simp only [hne, decide_false, cond_false, hw, e, obind_at]
      exact ⟨_, rfl, r.1, r.2.1⟩
end
theorem lf_all : ∀ (n i : Nat), lf i (List.replicate n false) = (List.range' i n).map fun (t : Nat) => (t : Int)
  | 0, i => rfl
  | n + 1, i => by
    rw [List.replicate_succ, List.range'_succ, List.map_cons, ← lf_all n (i + 1)]
    rfl
def allI (n : Nat) : List Int := lf 0 (List.replicate n false)
theorem allI_len (n : Nat) : (allI n).length = n := by unfold allI; rw [lf_all]; simp
theorem allI_ok (n : Nat) : LeftOk n (allI n) := by
  have := lf_ok (List.replicate n false)
  rw [List.length_replicate] at this
  exact this
theorem f69_eq {o : Option (List GUnit)} {l : List GUnit} (h : o.getD [] = l) (hu : UnitsOk l) {m : Nat} (hm : l.length = 2 * m) (hm4 : m ≤ 4) : ∃ r, f69 o = some r ∧ r.1.getD [] = (bestP l m (allI l.length) []).1 ∧ r.2 = (bestP l m (allI l.length) []).2 := by
  have := f123_eq hu h (by omega) m 10 (by omega) (some (List.replicate l.length false)) none (by simp) (by simp only [Option.getD_some]; rw [← hm]; exact allI_len _) (fun q hq => by cases hq) (by simp; omega)
  unfold f69
  rw [h, if_pos (by omega)]
  exact this
theorem f112_eq {o : Option (List GUnit)} {l : List GUnit} (h : o.getD [] = l) (hn : l.length ≤ 1000) : ∃ b, f112 o = some (nonNil (allI l.length), b) := by
  have hlen : (List.range l.length).length = l.length := List.length_range
  have key := itO_list (δ := Option (List Int) × Bool × Int) (ε := Empty) (List.range l.length) (s112_0 o) (fun i (s : List Int) => (nonNil s, (i : Int), accO s)) (fun _ s t => .inl (s ++ [(t : Int)])) (fun s => (nonNil s, accO s, (l.length : Int))) (fun d => nomatch d) (fun i s => s.length ≤ i) [] ?_ ?_ (Nat.le_refl _)
  · have hr : runL (δ := Empty) (fun _ (s : List Int) (t : Nat) => .inl (s ++ [(t : Int)])) 0 [] (List.range l.length) = .inl (allI l.length) := by
      rw [show (fun (_ : Nat) (s : List Int) (t : Nat) => (Sum.inl (s ++ [(t : Int)]) : List Int ⊕ Empty)) = fun _ s t => .inl ((fun (s : List Int) (t : Nat) => s ++ [(t : Int)]) s t) from rfl, runL_fold]
      congr 1
      have : ∀ (l : List Nat) (s : List Int), l.foldl (fun (s : List Int) (t : Nat) => s ++ [(t : Int)]) s = s ++ l.map fun (i : Nat) => (i : Int) := by
        intro l
        induction l with
        | nil => intro s; simp
        | cons t l ih => intro s; rw [List.foldl_cons, ih]; simp
      rw [this, List.nil_append]
      unfold allI
      rw [lf_all, List.range_eq_range']
    rw [hr, Int.natCast_zero] at key
    unfold f112
    rw [show ((none : Option (List Int)), (0 : Int), false) = (nonNil [], 0, accO ([] : List Int)) from rfl, key]
    exact ⟨_, rfl⟩
  · intro s _
    rw [hlen]
    unfold s112_0
    simp [h]
  · intro i s t ht hi hs
    obtain ⟨rfl, hi'⟩ := range_atN ht
    have hlt : (t : Int) < (l.length : Int) := by omega
    refine ⟨by rw [List.length_append, List.length_singleton]; omega, ?_⟩
    unfold s112_0
    simp only [h, hlt, decide_true, cond_true, wrap_nat (show t < 9223372036854775807 by omega)]
    rw [growG _ _ _ (by omega)]
    simp [accO]
def pairsE (l : List GUnit) : Int := firstNZ [unitsE l, whenE (!decide ((l.length : Int).tmod 2 = 0)) 35, whenE (decide (8 < (l.length : Int))) 23]
theorem pairsE_ok {l : List GUnit} (h : pairsE l = 0) : unitsE l = 0 ∧ ∃ m, l.length = 2 * m ∧ m ≤ 4 := by
  have h1 := firstNZ_zero h _ (List.mem_cons_self ..)
  have h2 := whenE_zero (by decide) (firstNZ_zero h _ (List.mem_cons_of_mem _ (List.mem_cons_self ..)))
  have h3 := whenE_zero (by decide) (firstNZ_zero h _ (List.mem_cons_of_mem _ (List.mem_cons_of_mem _ (List.mem_cons_self ..))))
  simp only [Bool.not_eq_eq_eq_not, Bool.not_false, decide_eq_true_eq, decide_eq_false_iff_not] at h2 h3
  refine ⟨h1, l.length / 2, ?_, ?_⟩
  · have : (l.length : Int).tmod 2 = ((l.length % 2 : Nat) : Int) := rfl
    omega
  · omega
theorem f56_eq {o : Option (List GUnit)} {l : List GUnit} (h : o.getD [] = l) (hn : l.length ≤ 1000) (e22 : E22 o = some (unitsE l)) :
    if pairsE l = 0 then ∃ b w, f56 o = some (b, w, 0) ∧ b.getD [] = (bestP l (l.length / 2) (allI l.length) []).1 ∧ w = (bestP l (l.length / 2) (allI l.length) []).2 else f56 o = some (none, 0, pairsE l) := by
  have hrem : remO (l.length : Int) 2 = some ((l.length : Int).tmod 2) := by unfold remO; rw [if_neg (by decide)]
  have hun : f56 o = cond (decide (pairsE l = 0)) (obind (f112 o) fun v12 => obind (f111 10 v12.1 none o none false 0 false) fun v14 => some (v14.1, v14.2.1, 0)) (some (none, 0, pairsE l)) := by
    unfold f56
    simp only [e22, obind_at, h, hrem, E24, E94_3]
    rfl
  rw [hun]
  split
  · next hz =>
    obtain ⟨h1, m, hm, hm4⟩ := pairsE_ok hz
    have hu := units_ok h1
    obtain ⟨b, h112⟩ := f112_eq h hn
    have hg : (nonNil (allI l.length)).getD [] = allI l.length := nonNil_get' _
    obtain ⟨best', own', worst', found', e, r⟩ := f111_eq hu h m 10 (by omega) (nonNil (allI l.length)) none none none false 0 false (by rw [hg]; exact allI_ok _) (by rw [hg, allI_len]; exact hm) (fun q hq => by cases hq) (by simp; omega) ⟨rfl, rfl, rfl⟩
    rw [hg] at r
    simp only [hz, decide_true, cond_true, h112, obind_at, e]
    rw [show l.length / 2 = m by omega]
    exact ⟨best', worst', rfl, r.2.1, r.2.2⟩
  · next hz =>
    simp only [hz, decide_false, cond_false]
end Go.Z
