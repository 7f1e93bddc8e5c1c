/-
  LinePairs: differences, worst differences, the best of pairings.
-/
import Derived.Test.YtbkpojiedkhfkaaGreatR4
import Derived.Test.YtbkpojiedkhfkaaGreatL14
import Derived.Test.YtbkpojiedkhfkaaGreatB2
set_option linter.unusedVariables false
set_option linter.unusedSimpArgs false
set_option maxRecDepth 100000
set_option linter.unusedSimpArgs false
set_option linter.unusedVariables false
namespace Go.Z
open Go Go.Abs
section
variable {β ι : Type}
def updG (st : Option (β × Int)) (r : β × Int) : Option (β × Int) := match st with
  | none => some r
  | some s => if r.2 < s.2 then some r else some s
theorem updG_some (st : Option (β × Int)) (r : β × Int) : ∃ s, updG st r = some s := by
  cases st with
  | none => exact ⟨r, rfl⟩
  | some s => unfold updG; simp only []; split <;> exact ⟨_, rfl⟩
theorem updG_updG (st : Option (β × Int)) (a b : β × Int) : updG (updG st a) b = match updG (some a) b with
    | some x => updG st x
    | none => st := by
  cases st with
  | none =>
    obtain ⟨s, hs⟩ := updG_some (some a) b
    show updG (some a) b = _
    rw [hs]; rfl
  | some s =>
    simp only [updG]
    by_cases h1 : a.2 < s.2
    · rw [if_pos h1]
      simp only []
      by_cases h2 : b.2 < a.2
      · rw [if_pos h2]; simp only []; rw [if_pos (show b.2 < s.2 by omega)]
      · rw [if_neg h2]; simp only []; rw [if_pos h1]
    · rw [if_neg h1]
      simp only []
      by_cases h2 : b.2 < a.2
      · rw [if_pos h2]
      · rw [if_neg h2]; simp only []; rw [if_neg h1, if_neg (show ¬ b.2 < s.2 by omega)]
theorem foldG_some (r : ι → β × Int) : ∀ (l : List ι) (a : β × Int), ∃ s, l.foldl (fun st b => updG st (r b)) (some a) = some s
  | [], a => ⟨a, rfl⟩
  | b :: l, a => by
    obtain ⟨s, hs⟩ := updG_some (some a) (r b)
    rw [List.foldl_cons, hs]
    exact foldG_some r l s
theorem foldG_upd (r : ι → β × Int) : ∀ (l : List ι) (st : Option (β × Int)) (a : β × Int), l.foldl (fun st b => updG st (r b)) (updG st a) = match l.foldl (fun st b => updG st (r b)) (some a) with
    | some x => updG st x
    | none => st
  | [], st, a => rfl
  | b :: l, st, a => by
    rw [List.foldl_cons, List.foldl_cons, updG_updG]
    obtain ⟨s, hs⟩ := updG_some (some a) (r b)
    rw [hs]
    exact foldG_upd r l st s
theorem foldG_low (r : ι → β × Int) (e : Int) : ∀ (l : List ι) (a : β × Int), (∀ b ∈ l, e ≤ (r b).2) → e ≤ a.2 → ∀ s, l.foldl (fun st b => updG st (r b)) (some a) = some s → e ≤ s.2
  | [], a, _, ha, s, hs => by cases hs; exact ha
  | b :: l, a, h, ha, s, hs => by
    rw [List.foldl_cons] at hs
    have hb := h b (List.mem_cons_self ..)
    have : updG (some a) (r b) = some (if (r b).2 < a.2 then r b else a) := by
      unfold updG; simp only []; split <;> rfl
    rw [this] at hs
    exact foldG_low r e l _ (fun c hc => h c (List.mem_cons_of_mem _ hc)) (by split <;> assumption) s hs
theorem foldG_ne (r : ι → β × Int) (d : β × Int) {l : List ι} (hl : l ≠ []) (st : Option (β × Int)) : l.foldl (fun st b => updG st (r b)) st = updG st ((l.foldl (fun st b => updG st (r b)) none).getD d) := by
  cases l with
  | nil => exact absurd rfl hl
  | cons b l =>
    rw [List.foldl_cons, List.foldl_cons, foldG_upd]
    have e : updG none (r b) = some (r b) := rfl
    rw [e]
    obtain ⟨s, hs⟩ := foldG_some r l (r b)
    rw [hs]; rfl
theorem foldG_is (r : ι → β × Int) : ∀ (l : List ι) (a s : β × Int), l.foldl (fun st b => updG st (r b)) (some a) = some s → s = a ∨ ∃ b ∈ l, s = r b
  | [], a, s, h => by cases h; exact .inl rfl
  | b :: l, a, s, h => by
    rw [List.foldl_cons] at h
    have : updG (some a) (r b) = some (if (r b).2 < a.2 then r b else a) := by
      unfold updG; simp only []; split <;> rfl
    rw [this] at h
    rcases foldG_is r l _ s h with h | ⟨c, hc, h⟩
    · rw [h]
      split
      · exact .inr ⟨b, List.mem_cons_self .., rfl⟩
      · exact .inl rfl
    · exact .inr ⟨c, List.mem_cons_of_mem _ hc, h⟩
end
theorem growG {α β : Type} (s : List α) (x : α) (F : Option (List α) → Option β) (hs : s.length ≤ 100000) :
    cond (accO s) (obind (apO (nonNil s) [x]) F) (cond (nonNil s).isNone (obind (apO (nonNil s) [x]) F) none) = F (nonNil (s ++ [x])) := by
  cases s with
  | nil => rfl
  | cons y s =>
    have : apO (some (y :: s)) [x] = some (some ((y :: s) ++ [x])) := ap_one _ _ (by omega)
    simp only [nonNil, accO, List.isEmpty_cons, Bool.not_false, cond_true, this, obind_at]
    rfl
theorem nonNil_get' {α : Type} (l : List α) : (nonNil l).getD [] = l := by cases l <;> rfl
theorem nonNil_snoc {α : Type} (s : List α) (x : α) : nonNil (s ++ [x]) = some (s ++ [x]) := by cases s <;> rfl
def stepD (s : Int) (vw : Int × Int) : Int := max (max s (vw.1 - vw.2)) (vw.2 - vw.1)
def diffU (a b : GUnit) : Int := ((a.values.getD []).zip (b.values.getD [])).foldl stepD 0
structure UnitOk (u : GUnit) : Prop where
  len : (u.values.getD []).length ≤ 16
  val : ∀ v ∈ u.values.getD [], -100000 ≤ v ∧ v ≤ 100000
theorem unit_ok {u : GUnit} (h : unitE u = 0) : UnitOk u := by
  refine ⟨?_, unitE_at h⟩
  have := whenE_zero (by decide) (firstNZ_zero h _ (List.mem_cons_of_mem _ (List.mem_cons_of_mem _ (List.mem_cons_self ..))))
  simp only [decide_eq_false_iff_not] at this
  omega
theorem stepD_bounds : ∀ (l : List (Int × Int)) (s : Int), (∀ vw ∈ l, -100000 ≤ vw.1 ∧ vw.1 ≤ 100000 ∧ -100000 ≤ vw.2 ∧ vw.2 ≤ 100000) → 0 ≤ s → s ≤ 200000 → 0 ≤ l.foldl stepD s ∧ l.foldl stepD s ≤ 200000 ∧ s ≤ l.foldl stepD s
  | [], s, _, h0, h1 => ⟨h0, h1, Int.le_refl _⟩
  | vw :: l, s, h, h0, h1 => by
    have hv := h vw (List.mem_cons_self ..)
    have := stepD_bounds l (stepD s vw) (fun x hx => h x (List.mem_cons_of_mem _ hx)) (by unfold stepD; omega) (by unfold stepD; omega)
    rw [List.foldl_cons]
    refine ⟨this.1, this.2.1, ?_⟩
    have h2 := this.2.2
    unfold stepD at h2 ⊢
    omega
theorem zip_vals {a b : GUnit} (ha : UnitOk a) (hb : UnitOk b) : ∀ vw ∈ (a.values.getD []).zip (b.values.getD []), -100000 ≤ vw.1 ∧ vw.1 ≤ 100000 ∧ -100000 ≤ vw.2 ∧ vw.2 ≤ 100000 := by
  intro vw h
  have h1 := ha.val _ (List.of_mem_zip h).1
  have h2 := hb.val _ (List.of_mem_zip h).2
  omega
theorem diffU_bounds {a b : GUnit} (ha : UnitOk a) (hb : UnitOk b) : 0 ≤ diffU a b ∧ diffU a b ≤ 200000 := by
  have := stepD_bounds _ 0 (zip_vals ha hb) (by omega) (by omega)
  exact ⟨this.1, this.2.1⟩
theorem f115_eq {a b : GUnit} (ha : UnitOk a) (hb : UnitOk b) (hl : (a.values.getD []).length = (b.values.getD []).length) : f115 a b = some (diffU a b) := by
  have hlen := ha.len
  have hzl : ((a.values.getD []).zip (b.values.getD [])).length = (a.values.getD []).length := by rw [List.length_zip]; omega
  have hz := zip_vals ha hb
  have key := itO_list (δ := Int × Int) (ε := Empty) ((a.values.getD []).zip (b.values.getD [])) (s115_0 a b) (fun i s => (s, (i : Int))) (fun _ s t => .inl (stepD s t)) (fun s => (s, ((a.values.getD []).length : Int))) (fun d => nomatch d) (fun _ s => 0 ≤ s ∧ s ≤ 200000) 0 ?_ ?_ ⟨by omega, by omega⟩
  · have hf : runL (δ := Empty) (fun _ (s : Int) (t : Int × Int) => .inl (stepD s t)) 0 0 ((a.values.getD []).zip (b.values.getD [])) = .inl (diffU a b) := runL_fold stepD _ _ _
    rw [hf, Int.natCast_zero] at key
    unfold f115
    rw [key]; rfl
  · intro s _
    rw [hzl]
    unfold s115_0
    simp
  · intro i s vw hi hlt hs
    obtain ⟨x, y⟩ := vw
    rw [List.getElem?_zip_eq_some] at hi
    obtain ⟨hxi, hyi⟩ := hi
    rw [hzl] at hlt
    have hx := ha.val x (List.mem_of_getElem? hxi)
    have hy := hb.val y (List.mem_of_getElem? hyi)
    have hi1 : ((i : Int) < ((a.values.getD []).length : Int)) := by omega
    have hwi : wrapF .i64 ((i : Int) + 1) = ((i + 1 : Nat) : Int) := wrap_nat (by omega)
    dsimp only
    refine ⟨by unfold stepD; dsimp only; omega, ?_⟩
    unfold s115_0
    simp only [hi1, decide_true, cond_true, idxO_nat, hxi, hyi, obind_at, hwi, wrapF_i64 (show -9223372036854775808 ≤ x - y by omega) (by omega), wrapF_i64 (show -9223372036854775808 ≤ y - x by omega) (by omega)]
    rfl
theorem f68_f115 (a b : GUnit) : f68 a b = f115 a b := rfl
structure UnitsOk (l : List GUnit) : Prop where
  ok : ∀ u ∈ l, UnitOk u
  same : ∀ u ∈ l, ∀ w ∈ l, (u.values.getD []).length = (w.values.getD []).length
theorem firstU_each {n0 : Int} : ∀ {l : List GUnit} {seen : List (List UInt8)}, firstU n0 seen l = 0 → ∀ u ∈ l, unitE u = 0 ∧ lenU u = n0
  | x :: l, seen, h, u, hu => by
    unfold firstU at h
    by_cases hz : stepU n0 seen x = 0
    · rw [if_pos hz] at h
      rcases List.mem_cons.1 hu with rfl | hu
      · refine ⟨firstNZ_zero hz _ (List.mem_cons_self ..), ?_⟩
        have := whenE_zero (by decide) (firstNZ_zero hz _ (List.mem_cons_of_mem _ (List.mem_cons_self ..)))
        simpa using this
      · exact firstU_each h u hu
    · rw [if_neg hz] at h; exact absurd h hz
theorem units_each {l : List GUnit} (h : unitsE l = 0) : ∀ u ∈ l, unitE u = 0 ∧ lenU u = len0 l := by
  unfold unitsE at h
  split at h
  · exact firstU_each h
  · cases h
theorem units_ok {l : List GUnit} (h : unitsE l = 0) : UnitsOk l := by
  have h1 := units_each h
  refine ⟨fun u hu => unit_ok (h1 u hu).1, fun u hu w hw => ?_⟩
  have e1 := (h1 u hu).2
  have e2 := (h1 w hw).2
  unfold lenU at e1 e2
  omega
def dAt (l : List GUnit) (i j : Int) : Int := match l[i.toNat]?, l[j.toNat]? with
  | some u, some w => diffU u w
  | _, _ => 0
theorem dAt_bounds {l : List GUnit} (h : UnitsOk l) (i j : Int) : 0 ≤ dAt l i j ∧ dAt l i j ≤ 200000 := by
  unfold dAt
  split
  · rename_i u w hu hw
    exact diffU_bounds (h.ok u (List.mem_of_getElem? hu)) (h.ok w (List.mem_of_getElem? hw))
  · omega
theorem d_at {l : List GUnit} (h : UnitsOk l) {i j : Int} (hi : 0 ≤ i) (hin : i < (l.length : Int)) (hj : 0 ≤ j) (hjn : j < (l.length : Int)) : ∃ u w, idxO l i = some u ∧ idxO l j = some w ∧ f115 u w = some (dAt l i j) := by
  have h1 : i.toNat < l.length := by omega
  have h2 : j.toNat < l.length := by omega
  refine ⟨l[i.toNat], l[j.toNat], by unfold idxO; rw [if_pos hi]; exact List.getElem?_eq_getElem h1, by unfold idxO; rw [if_pos hj]; exact List.getElem?_eq_getElem h2, ?_⟩
  rw [f115_eq (h.ok _ (List.getElem_mem h1)) (h.ok _ (List.getElem_mem h2)) (h.same _ (List.getElem_mem h1) _ (List.getElem_mem h2))]
  unfold dAt
  rw [List.getElem?_eq_getElem h1, List.getElem?_eq_getElem h2]
def worstP (l : List GUnit) (p : List GPair) : Int := p.foldl (fun s q => max s (dAt l q.a q.b)) 0
def PairsIn (n : Nat) (p : List GPair) : Prop := ∀ q ∈ p, 0 ≤ q.a ∧ q.a < (n : Int) ∧ 0 ≤ q.b ∧ q.b < (n : Int)
theorem worstP_snoc (l : List GUnit) (p : List GPair) (q : GPair) : worstP l (p ++ [q]) = max (worstP l p) (dAt l q.a q.b) := by
  unfold worstP; rw [List.foldl_append]; rfl
theorem worst_fold {l : List GUnit} (h : UnitsOk l) : ∀ (p : List GPair) (s : Int), 0 ≤ s → s ≤ 200000 → 0 ≤ p.foldl (fun s q => max s (dAt l q.a q.b)) s ∧ p.foldl (fun s q => max s (dAt l q.a q.b)) s ≤ 200000
  | [], s, h0, h1 => ⟨h0, h1⟩
  | q :: p, s, h0, h1 => by
    have := dAt_bounds h q.a q.b
    have h2 := worst_fold h p (max s (dAt l q.a q.b)) (by omega) (by omega)
    exact h2
theorem worst_bounds {l : List GUnit} (h : UnitsOk l) (p : List GPair) : 0 ≤ worstP l p ∧ worstP l p ≤ 200000 := worst_fold h p 0 (by omega) (by omega)
theorem f71_eq {o : Option (List GUnit)} {op : Option (List GPair)} {l : List GUnit} {p : List GPair} (h : o.getD [] = l) (h2 : op.getD [] = p) (hu : UnitsOk l) (hp : PairsIn l.length p) (hn : p.length ≤ 1000) : f71 o op = some (worstP l p) := by
  have key := itO_list (δ := Int × Int) (ε := Empty) p (s71_0 o op) (fun i s => (s, (i : Int))) (fun _ s (q : GPair) => .inl (max s (dAt l q.a q.b))) (fun s => (s, (p.length : Int))) (fun d => nomatch d) (fun _ _ => True) 0 ?_ ?_ trivial
  · have hf : runL (δ := Empty) (fun _ (s : Int) (q : GPair) => .inl (max s (dAt l q.a q.b))) 0 0 p = .inl (worstP l p) := runL_fold (fun (s : Int) (q : GPair) => max s (dAt l q.a q.b)) _ _ _
    rw [hf, Int.natCast_zero] at key
    unfold f71
    rw [key]; rfl
  · intro s _
    unfold s71_0
    simp [h2]
  · intro i s q hi hlt _
    obtain ⟨p1, p2, p3, p4⟩ := hp q (List.mem_of_getElem? hi)
    obtain ⟨u, w, e1, e2, e3⟩ := d_at hu p1 p2 p3 p4
    have hi1 : ((i : Int) < (p.length : Int)) := by omega
    refine ⟨trivial, ?_⟩
    unfold s71_0
    simp only [h2, h, hi1, decide_true, cond_true, idxO_nat, hi, obind_at, e1, e2, f68_f115, e3, wrap_nat (show i < 9223372036854775807 by omega)]
theorem f145_eq {o : Option (List GUnit)} {op : Option (List GPair)} {l : List GUnit} {p : List GPair} (h : o.getD [] = l) (h2 : op.getD [] = p) (hu : UnitsOk l) (hp : PairsIn l.length p) (hn : p.length ≤ 1000) : f145 op o = some (nonNil (p.map fun q => dAt l q.a q.b), accO (p.map fun q => dAt l q.a q.b)) := by
  have key := itO_list (δ := Option (List Int) × Bool × Int) (ε := Empty) p (s145_0 op o) (fun i (s : List Int) => (nonNil s, (i : Int), accO s)) (fun _ s (q : GPair) => .inl (s ++ [dAt l q.a q.b])) (fun s => (nonNil s, accO s, (p.length : Int))) (fun d => nomatch d) (fun i s => s.length ≤ i) [] ?_ ?_ (Nat.le_refl _)
  · have hf : runL (δ := Empty) (fun _ (s : List Int) (q : GPair) => .inl (s ++ [dAt l q.a q.b])) 0 [] p = .inl (p.map fun q => dAt l q.a q.b) := by
      rw [show (fun (_ : Nat) (s : List Int) (q : GPair) => (Sum.inl (s ++ [dAt l q.a q.b]) : List Int ⊕ Empty)) = fun _ s q => .inl ((fun (s : List Int) (q : GPair) => s ++ [dAt l q.a q.b]) s q) from rfl, runL_fold]
      congr 1
      have : ∀ (p : List GPair) (s : List Int), p.foldl (fun (s : List Int) (q : GPair) => s ++ [dAt l q.a q.b]) s = s ++ p.map fun q => dAt l q.a q.b := by
        intro p
        induction p with
        | nil => intro s; simp
        | cons t p ih => intro s; rw [List.foldl_cons, ih]; simp
      simpa using this p []
    rw [hf, Int.natCast_zero] at key
    unfold f145
    rw [show ((none : Option (List Int)), (0 : Int), false) = (nonNil [], 0, accO ([] : List Int)) from rfl, key]
    simp only [obind_at]
  · intro s _
    unfold s145_0
    simp [h2]
  · intro i s q hi hlt hs
    obtain ⟨p1, p2, p3, p4⟩ := hp q (List.mem_of_getElem? hi)
    obtain ⟨u, w, e1, e2, e3⟩ := d_at hu p1 p2 p3 p4
    have hi1 : ((i : Int) < (p.length : Int)) := by omega
    have e146 : f146 q o q.a q.b = some (dAt l q.a q.b) := by
      unfold f146
      simp only [h, e1, e2, obind_at, e3]
    refine ⟨by rw [List.length_append, List.length_singleton]; omega, ?_⟩
    unfold s145_0
    simp only [h2, hi1, decide_true, cond_true, idxO_nat, hi, obind_at, e146, wrap_nat (show i < 9223372036854775807 by omega)]
    rw [growG _ _ _ (by omega)]
    simp [accO]
theorem maxL_snoc (l : List Int) (x : Int) : maxL (l ++ [x]) = match l with
    | [] => x
    | y :: t => max (t.foldl max y) x := by
  cases l with
  | nil => rfl
  | cons y t => show (t ++ [x]).foldl max y = _; rw [List.foldl_append]; rfl
theorem foldmax_comm : ∀ (t : List Int) (a b : Int), t.foldl max (max a b) = max a (t.foldl max b)
  | [], a, b => rfl
  | x :: t, a, b => by rw [List.foldl_cons, List.foldl_cons, ← foldmax_comm t a (max b x)]; congr 1; omega
theorem f122_eq {o : Option (List GUnit)} {op : Option (List GPair)} {l : List GUnit} {p : List GPair} (h : o.getD [] = l) (h2 : op.getD [] = p) (hu : UnitsOk l) (hp : PairsIn l.length p) (hn : p.length ≤ 1000) : f122 o op = some (worstP l p) := by
  have hw : worstP l p = maxL ((p.map fun q => dAt l q.a q.b) ++ [0]) := by
    rw [maxL_snoc]
    have e : worstP l p = (p.map fun q => dAt l q.a q.b).foldl max 0 := by unfold worstP; rw [List.foldl_map]
    rw [e]
    cases hm : p.map fun q => dAt l q.a q.b with
    | nil => rfl
    | cons y t =>
      rw [List.foldl_cons]
      have : max (0 : Int) y = max 0 y := rfl
      rw [foldmax_comm]
      simp only []
      omega
  unfold f122
  rw [f145_eq h h2 hu hp hn]
  simp only [obind_at]
  rw [growG _ _ _ (by rw [List.length_map]; omega), nonNil_snoc]
  have e93 : E93 (some ((p.map fun q => dAt l q.a q.b) ++ [0])) = some (maxL ((p.map fun q => dAt l q.a q.b) ++ [0])) := exO_of ⟨by simp; omega, by simp⟩
  rw [e93, hw]; rfl
end Go.Z
/-
  LinePairs: the best of all pairings that begin so.
-/
set_option maxRecDepth 100000
set_option linter.unusedSimpArgs false
set_option linter.unusedVariables false
namespace Go.Z
open Go Go.Abs
abbrev PSch := List GPair × Int
def bestP (l : List GUnit) : Nat → List Int → List GPair → PSch
  | 0, _, p => (p, worstP l p)
  | n + 1, left, p => (left.tail.foldl (fun st b => updG st (bestP l n (left.tail.filter fun x => x != b) (p ++ [⟨left.headD 0, b⟩]))) none).getD (p, 0)
theorem filter_ne {t : List Int} (h : t.Nodup) {i : Nat} (hi : i < t.length) : t.take i ++ t.drop (i + 1) = t.filter fun x => x != t[i] := by
  induction t generalizing i with
  | nil => simp at hi
  | cons x t ih =>
    have hx := (List.nodup_cons.1 h).1
    cases i with
    | zero =>
      simp only [List.take_zero, List.nil_append, List.getElem_cons_zero, Nat.zero_add, List.drop_succ_cons, List.drop_zero]
      rw [List.filter_cons]
      simp only [bne_self_eq_false, Bool.false_eq_true, if_false]
      symm
      rw [List.filter_eq_self]
      intro y hy
      have : y ≠ x := fun e => hx (e ▸ hy)
      simp [this]
    | succ i =>
      have hi' : i < t.length := by simpa using hi
      simp only [List.take_succ_cons, List.cons_append, List.drop_succ_cons, List.getElem_cons_succ]
      rw [List.filter_cons]
      have : x ≠ t[i] := fun e => hx (e ▸ List.getElem_mem hi')
      have hb : (x != t[i]) = true := by simp [this]
      rw [if_pos hb, ← ih (List.nodup_cons.1 h).2 hi']
theorem filter_len {t : List Int} (h : t.Nodup) {b : Int} (hb : b ∈ t) : (t.filter fun x => x != b).length + 1 = t.length := by
  obtain ⟨i, hi, rfl⟩ := List.getElem_of_mem hb
  rw [← filter_ne h hi, List.length_append, List.length_take, List.length_drop]
  omega
structure LeftOk (n : Nat) (left : List Int) : Prop where
  nd : left.Nodup
  ins : ∀ x ∈ left, 0 ≤ x ∧ x < (n : Int)
theorem LeftOk.next {n : Nat} {left : List Int} (h : LeftOk n left) (b : Int) : LeftOk n (left.tail.filter fun x => x != b) :=
  ⟨(h.nd.sublist (List.tail_sublist _)).sublist (List.filter_sublist ..), fun x hx => h.ins x (List.mem_of_mem_tail (List.mem_filter.1 hx).1)⟩
theorem LeftOk.tail {n : Nat} {left : List Int} (h : LeftOk n left) : left.tail.Nodup := h.nd.sublist (List.tail_sublist _)
theorem LeftOk.head {n : Nat} {left : List Int} (h : LeftOk n left) (hne : left ≠ []) : 0 ≤ left.headD 0 ∧ left.headD 0 < (n : Int) := by
  cases left with
  | nil => exact absurd rfl hne
  | cons a t => exact h.ins a (List.mem_cons_self ..)
theorem next_len {n m : Nat} {left : List Int} (h : LeftOk n left) (hl : left.length = 2 * (m + 1)) {b : Int} (hb : b ∈ left.tail) : (left.tail.filter fun x => x != b).length = 2 * m := by
  have := filter_len h.tail hb
  rw [List.length_tail] at this
  omega
theorem pairs_in {n : Nat} {left : List Int} {p : List GPair} {b : Int} (h : LeftOk n left) (hp : PairsIn n p) (hb : b ∈ left.tail) : PairsIn n (p ++ [⟨left.headD 0, b⟩]) := by
  have hne : left ≠ [] := by rintro rfl; simp at hb
  have h1 := h.head hne
  have h2 := h.ins b (List.mem_of_mem_tail hb)
  intro q hq
  rcases List.mem_append.1 hq with hq | hq
  · exact hp q hq
  · simp only [List.mem_singleton] at hq
    subst hq
    exact ⟨h1.1, h1.2, h2.1, h2.2⟩
theorem bestP_fold {l : List GUnit} {m : Nat} {left : List Int} {p : List GPair} (hl : left.length = 2 * (m + 1)) (st : Option PSch) :
    left.tail.foldl (fun st b => updG st (bestP l m (left.tail.filter fun x => x != b) (p ++ [⟨left.headD 0, b⟩]))) st = updG st (bestP l (m + 1) left p) := by
  have hne : left.tail ≠ [] := by intro h; have := List.length_tail (l := left); rw [h] at this; simp at this; omega
  exact foldG_ne (fun b => bestP l m (left.tail.filter fun x => x != b) (p ++ [⟨left.headD 0, b⟩])) (p, 0) hne st
theorem bestP_low {l : List GUnit} (hu : UnitsOk l) {n : Nat} : ∀ (m : Nat) (left : List Int) (p : List GPair), LeftOk n left → left.length = 2 * m → worstP l p ≤ (bestP l m left p).2
  | 0, _, p, _, _ => Int.le_refl _
  | m + 1, left, p, hk, hl => by
    have h := bestP_fold (l := l) (p := p) hl none
    have hb : ∀ b ∈ left.tail, worstP l p ≤ (bestP l m (left.tail.filter fun x => x != b) (p ++ [⟨left.headD 0, b⟩])).2 := fun b hb => by
      have := bestP_low hu m _ (p ++ [⟨left.headD 0, b⟩]) (hk.next b) (next_len hk hl hb)
      rw [worstP_snoc] at this
      omega
    cases ht : left.tail with
    | nil => have := List.length_tail (l := left); rw [ht] at this; simp at this; omega
    | cons b t =>
      rw [ht] at h hb
      rw [List.foldl_cons] at h
      exact foldG_low (fun b' => bestP l m ((b :: t).filter fun x => x != b') (p ++ [⟨left.headD 0, b'⟩])) (worstP l p) t _ (fun c hc => hb c (List.mem_cons_of_mem _ hc)) (hb b (List.mem_cons_self ..)) _ h
theorem bestP_is {l : List GUnit} {n : Nat} : ∀ (m : Nat) (left : List Int) (p : List GPair), LeftOk n left → left.length = 2 * m → PairsIn n p → (bestP l m left p).1.length = p.length + m ∧ (bestP l m left p).2 = worstP l (bestP l m left p).1 ∧ PairsIn n (bestP l m left p).1
  | 0, _, p, _, _, hp => ⟨rfl, rfl, hp⟩
  | m + 1, left, p, hk, hl, hp => by
    have h := bestP_fold (l := l) (p := p) hl none
    have ih : ∀ b ∈ left.tail, _ := fun b hb => bestP_is (l := l) m (left.tail.filter fun x => x != b) (p ++ [⟨left.headD 0, b⟩]) (hk.next b) (next_len hk hl hb) (pairs_in hk hp hb)
    cases ht : left.tail with
    | nil => have := List.length_tail (l := left); rw [ht] at this; simp at this; omega
    | cons b t =>
      rw [ht] at h ih
      rw [List.foldl_cons] at h
      rcases foldG_is (fun b' => bestP l m ((b :: t).filter fun x => x != b') (p ++ [⟨left.headD 0, b'⟩])) t _ _ h with e | ⟨c, hc, e⟩
      · have := ih b (List.mem_cons_self ..)
        rw [e]
        simpa [Nat.add_assoc, Nat.add_comm 1 m] using this
      · have := ih c (List.mem_cons_of_mem _ hc)
        rw [e]
        simpa [Nat.add_assoc, Nat.add_comm 1 m] using this
end Go.Z
