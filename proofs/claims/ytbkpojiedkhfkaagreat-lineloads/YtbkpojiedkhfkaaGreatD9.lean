/-
  LineLoads: its law holds of the function that mirrors the run.
-/
import Derived.Test.YtbkpojiedkhfkaaGreatD7
set_option linter.unusedVariables false
set_option linter.unusedSimpArgs false
set_option maxRecDepth 100000
set_option linter.unusedSimpArgs false
set_option linter.unusedVariables false
namespace Go.Z
open Go Go.Abs
theorem checkEach_of {lo hi : Int} : ∀ {l : List Int}, (∀ x ∈ l, lo ≤ x ∧ x ≤ hi) → checkEach lo hi l = 0
  | [], _ => rfl
  | x :: l, h => by
    have h1 := h x (List.mem_cons_self ..)
    have h2 := checkEach_of fun y hy => h y (List.mem_cons_of_mem _ hy)
    unfold checkEach
    have e : checkRange x lo hi = 0 := by unfold checkRange; rw [if_neg (by omega), if_neg (by omega)]
    rw [if_pos e, h2]
theorem workE_of {w : List Int} {k : Int} (hw : WorkOk w) (h1 : 1 ≤ k) (h4 : k ≤ 4) : workE w k = 0 := by
  have hl := hw.len
  have e1 : whenE (decide ((8 : Int) < (w.length : Int))) 5 = 0 := by
    have : ¬ (8 : Int) < (w.length : Int) := by omega
    simp [whenE]; omega
  have e2 : checkEach 1 100000 w = 0 := checkEach_of fun x hx => ⟨hw.low x hx, hw.high x hx⟩
  have e3 : checkRange k 1 4 = 0 := by unfold checkRange; rw [if_neg (by omega), if_neg (by omega)]
  unfold workE
  rw [e1, e2, e3]; rfl
theorem nonNil_get (l : List Int) : (nonNil l).getD [] = l := by cases l <;> rfl
theorem cut_tail {o : Option (List Int)} (h : o.getD [] ≠ []) : cutSO o (some 1) none = some (some (o.getD []).tail) := by
  cases o with
  | none => exact absurd rfl h
  | some l =>
    cases l with
    | nil => exact absurd rfl h
    | cons x l =>
      unfold cutSO cutO bndI
      have h1 : (1 : Int) ≤ (l.length : Int) + 1 := by omega
      simp [bndI, h1]
theorem E55_n {a n : Int} (hn : n ≠ 0) {r : List Int} (h : f55 a n = some r) : E55 a n = some (some r) := by
  unfold E55; rw [if_neg hn, h]; rfl
theorem loads_part {a0 a1 : Option (List Int)} {a2 : GPair8} {v1 : Int} {w l : List Int} {k n : Nat}
    (hw : a0.getD [] = w) (hl : a1.getD [] = l) (hwo : WorkOk w) (hw1 : ∀ x ∈ w, x ≤ 1000) (hn : w.length = n) (hn6 : n ≤ 6) (hln : n ≤ l.length) (hlb : ∀ x ∈ l, 0 ≤ x ∧ x ≤ 255) (hb0 : 0 ≤ a2.b) (hb : a2.b ≤ 255)
    (hk : wrapF .i64 (1 + v1) = (k : Int)) (hk1 : 1 ≤ k) (hk3 : k ≤ 3) :
    ∃ v16 v18 v22 v24 v26 v28 d v109 v113 v115, f74 (ownI a0) (k : Int) = some v16 ∧ f76 (ownI a0) (k : Int) = some v18 ∧ E62 v16.1 = some (ownI v16.1) ∧ f75 (ownI a0) (k : Int) (ownI v16.1) = some v22 ∧
      f74 (ownI a0) (wrapF .i64 ((k : Int) + 1)) = some v24 ∧ f74 (ownI a0) 1 = some v26 ∧ E55 (wrapF .i64 (1 + wrapF .i64 a2.b)) (n : Int) = some v28 ∧
      itO (s12_0 a0 a1 a2 v1 v16 v18 v22 v24 v26 v28) (none, none, 0, 0, false, false) = some d ∧ f75 (ownI a0) (k : Int) d.1 = some v109 ∧ E62 d.2.2.1 = some (ownI d.2.2.1) ∧ f74 (ownI d.2.2.1) (k : Int) = some v113 ∧ f76 d.2.2.1 (k : Int) = some v115 ∧
      v16.2 = (opt w k, 0) ∧ v18 = (boundV w k, 0) ∧ v22 = (opt w k, 0) ∧ (v24.2.2 = 0 ∧ v24.2.1 ≤ opt w k) ∧ v26.2 = (sumI w, 0) ∧ (v109.2 = 0 ∧ opt w k ≤ v109.1) ∧ v113.2 = (opt w k, 0) ∧ v115 = (boundV w k, 0) ∧ d.2.2.2.2.1 = sumI w := by
  have hlen := hwo.len
  have hz := workE_of (k := (k : Int)) hwo (by omega) (by omega)
  have hz1 := workE_of (k := ((k + 1 : Nat) : Int)) hwo (by omega) (by omega)
  have hz2 := workE_of (k := ((1 : Nat) : Int)) hwo (by omega) (by omega)
  have ho : (ownI a0).getD [] = w := by rw [ownI_getD, hw]
  obtain ⟨s, e74, hs, hse⟩ := f74_opt (k := k) ho hz
  obtain ⟨s1, e741, hs1, hse1⟩ := f74_opt (k := k + 1) ho hz1
  obtain ⟨s2, e742, hs2, hse2⟩ := f74_opt (k := 1) ho hz2
  obtain ⟨e76, _⟩ := bound_both (ow := ownI a0) (k := k) ho hwo hk1 (by omega) hz
  have e75 := f75_sched (ol := ownI s) ho (ownI_getD s) hz hs
  rw [hse] at e75
  have hw8 : wrapF .i64 (1 + wrapF .i64 a2.b) = 1 + a2.b := by rw [wrapF_i64 (show -9223372036854775808 ≤ a2.b by omega) (by omega), wrapF_i64 (by omega) (by omega)]
  have hwk : wrapF .i64 ((k : Int) + 1) = ((k + 1 : Nat) : Int) := by rw [wrapF_i64 (by omega) (by omega)]; omega
  obtain ⟨r, v28, hv28, hr55, hrp⟩ : ∃ (r : List Int) (v28 : Option (List Int)), v28.getD [] = r ∧ E55 (wrapF .i64 (1 + wrapF .i64 a2.b)) (n : Int) = some v28 ∧ r.Perm (upto n) := by
    rw [hw8]
    by_cases h0 : n = 0
    · refine ⟨[], none, rfl, ?_, ?_⟩
      · unfold E55; rw [if_pos (by omega)]
      · rw [h0]; exact List.Perm.refl _
    · obtain ⟨r, h1, h2⟩ := draw_perm (a := 1 + a2.b) (n := n) (by omega) (by omega) (by omega) (by omega)
      exact ⟨r, some r, rfl, E55_n (by omega) h1, h2⟩
  have hrn : r.length = n := by rw [hrp.length_eq, upto_len]
  have hrb : ∀ x ∈ r, 0 ≤ x ∧ x < (n : Int) := by
    intro x hx
    have := hrp.mem_iff.1 hx
    unfold upto at this
    obtain ⟨i, hi, rfl⟩ := List.mem_map.1 this
    have := List.mem_range.1 hi
    omega
  have hd := loop12 (a2 := a2) (v16 := (s, opt w k, 0)) (v18 := (boundV w k, 0)) (v22 := (opt w k, 0)) (v24 := (s1, opt w (k + 1), 0)) (v26 := (s2, opt w 1, 0)) hw hn hn6 hl hln hlb hv28 hrn hrb hk (by omega) (fun x hx => ⟨hwo.low x hx, by have := hw1 x hx; omega⟩)
  have hfold : (List.range n).foldl (stepL w l r (k : Int)) ([], [], 0) = ((List.range n).map (fun i => (l.getD i 0).tmod (k : Int)), (List.range n).map (fun i => w.getD (r.getD i 0).toNat 0), sumI w) := by
    rw [fold_stepL]
    simp only [List.nil_append, Int.zero_add]
    rw [← hn, map_getD]
  rw [hfold] at hd
  simp only [] at hd
  have hgiven : Sched k w.length ((List.range n).map fun i => (l.getD i 0).tmod (k : Int)) := by
    refine ⟨by simp [hn], fun x hx => ?_⟩
    obtain ⟨i, hi, rfl⟩ := List.mem_map.1 hx
    have := List.mem_range.1 hi
    have hm := hlb l[i] (List.getElem_mem (show i < l.length by omega))
    rw [getD_lt (show i < l.length by omega)]
    exact ⟨Int.tmod_nonneg _ hm.1, Int.tmod_lt_of_pos _ (by omega)⟩
  have e75g := f75_sched (ol := nonNil ((List.range n).map fun i => (l.getD i 0).tmod (k : Int))) ho (nonNil_get _) hz hgiven
  have hperm : ((List.range n).map fun i => w.getD (r.getD i 0).toNat 0).Perm w := by
    have := turned_perm (w := w) (r := r) (by rw [hn]; exact hrp)
    rwa [hn] at this
  generalize hT : ((List.range n).map fun i => w.getD (r.getD i 0).toNat 0) = T at *
  have hTo : WorkOk T := ⟨by rw [hperm.length_eq]; exact hlen, fun x hx => hwo.low x (hperm.mem_iff.1 hx), fun x hx => hwo.high x (hperm.mem_iff.1 hx)⟩
  have hzT := workE_of (k := (k : Int)) hTo (by omega) (by omega)
  obtain ⟨s3, e743, _, _⟩ := f74_opt (ow := ownI (nonNil T)) (w := T) (k := k) (by rw [ownI_getD, nonNil_get]) hzT
  obtain ⟨e763, _⟩ := bound_both (ow := nonNil T) (k := k) (nonNil_get T) hTo hk1 (by omega) hzT
  have ep : opt T k = opt w k := (opt_perm hk1 hperm).symm
  have eb : boundV T k = boundV w k := boundV_perm hperm
  rw [ep] at e743
  rw [eb] at e763
  refine ⟨_, _, _, _, _, _, _, _, _, _, e74, e76, exO_of ?_, e75, by rw [hwk]; exact e741, e742, hr55, hd, e75g, exO_of ?_, e743, e763, rfl, rfl, rfl, ⟨rfl, opt_more hk1⟩, ?_, ⟨rfl, opt_le hk1 hgiven⟩, rfl, rfl, rfl⟩
  · have := hs.1; simp only []; omega
  · simp only [nonNil_get]; rw [hperm.length_eq]; omega
  · show (opt w 1, (0 : Int)) = (sumI w, 0)
    rw [opt_one fun x hx => by have := hwo.low x hx; omega]
set_option maxHeartbeats 4000000 in
theorem loads_true (a0 a1 : Option (List Int)) (a2 : GPair8) (ha : 0 ≤ a2.a ∧ a2.a ≤ 255) (hb : 0 ≤ a2.b ∧ a2.b ≤ 255) (hlb : ∀ x ∈ a1.getD [], 0 ≤ x ∧ x ≤ 255) : f12 a0 a1 a2 = some true := by
  unfold f12
  have hwa : wrapF .i64 a2.a = a2.a := wrapF_i64 (by omega) (by omega)
  obtain ⟨v1, hv1, hv0, hv2⟩ : ∃ v1, remO a2.a 3 = some v1 ∧ 0 ≤ v1 ∧ v1 ≤ 2 := by
    refine ⟨a2.a.tmod 3, by unfold remO; rw [if_neg (by omega)], Int.tmod_nonneg _ ha.1, ?_⟩
    have := Int.tmod_lt_of_pos a2.a (show (0 : Int) < 3 by omega); omega
  obtain ⟨k, hk, hk1, hk3⟩ : ∃ k : Nat, wrapF .i64 (1 + v1) = (k : Int) ∧ 1 ≤ k ∧ k ≤ 3 := by
    refine ⟨(1 + v1).toNat, ?_, by omega, by omega⟩
    rw [wrapF_i64 (by omega) (by omega)]; omega
  simp only [hwa, hv1, obind_at, E14, cond_true]
  by_cases h6 : (6 : Int) < ((a0.getD []).length : Int)
  · simp [h6]
  simp only [h6, decide_false, cond_false, hk, f77_eq (o := a0) (k := (k : Int)) (by omega), obind_at]
  by_cases hz : workE (a0.getD []) (k : Int) = 0
  case neg => simp [hz]
  obtain ⟨hwo, _, _⟩ := workE_ok hz
  have e82 : E82 a0 1 1000 = some (checkEach 1 1000 (a0.getD [])) := exO_of (by omega)
  simp only [hz, decide_true, cond_true, e82, obind_at]
  by_cases hc : checkEach 1 1000 (a0.getD []) = 0
  case neg => simp [hc]
  simp only [hc, decide_true, cond_true]
  by_cases hl : ((a1.getD []).length : Int) < ((a0.getD []).length : Int)
  · simp [hl]
  have e62 : E62 a0 = some (ownI a0) := exO_of (by omega)
  simp only [hl, decide_false, cond_false, e62, obind_at]
  have hw1 : ∀ x ∈ a0.getD [], x ≤ 1000 := fun x hx => (checkEach_zero hc x hx).2
  obtain ⟨v16, v18, v22, v24, v26, v28, d, v109, v113, v115, q1, q2, q3, q4, q5, q6, q7, q8, q9, q10, q11, q12, t1, t2, t3, ⟨t4, t5⟩, t6, ⟨t7, t8⟩, t9, t10, t11⟩ :=
    loads_part (a2 := a2) (v1 := v1) (n := (a0.getD []).length) rfl rfl hwo hw1 rfl (by omega) (by omega) hlb hb.1 hb.2 hk hk1 hk3
  simp only [q1, q2, q3, q4, q5, q6, q7, q8, q9, q10, q11, q12, obind_at]
  obtain ⟨x16, y16, z16⟩ := v16
  obtain ⟨x24, y24, z24⟩ := v24
  obtain ⟨x26, y26, z26⟩ := v26
  obtain ⟨x113, y113, z113⟩ := v113
  obtain ⟨y109, z109⟩ := v109
  cases t1; cases t6; cases t9; subst t2; subst t3; subst t10
  simp only [] at t4 t5 t7 t8
  subst t4; subst t7
  have hbo := bound_opt (w := a0.getD []) hk1 (by omega) (fun x hx => by have := hwo.low x hx; omega)
  have hbs := bound_sum (w := a0.getD []) hk1 (by omega)
  have hsn := sumI_bounds (l := a0.getD []) (lo := 1) (hi := 1000) (fun x hx => checkEach_zero hc x hx)
  have hob : opt (a0.getD []) k ≤ 800000 := by
    obtain ⟨t, h1, _, h2⟩ := opt_is (w := a0.getD []) hk1
    have hzz := zw_ok (w := a0.getD []) (l := t) hwo (fun x hx => by have := h1.2 x hx; omega)
    have b0 := (sB_bounds hzz 0).2; have b1 := (sB_bounds hzz 1).2; have b2 := (sB_bounds hzz 2).2; have b3 := (sB_bounds hzz 3).2
    have hll : (t.zip (a0.getD [])).length ≤ 8 := by have := hwo.len; rw [List.length_zip]; omega
    rw [h2]
    unfold endS endZ
    omega
  have hprod : wrapF .i64 (boundV (a0.getD []) k * (k : Int)) = boundV (a0.getD []) k * (k : Int) := by
    have hkk : k = 1 ∨ k = 2 ∨ k = 3 := by omega
    rcases hkk with rfl | rfl | rfl
    · exact wrapF_i64 (by omega) (by omega)
    · exact wrapF_i64 (by omega) (by omega)
    · exact wrapF_i64 (by omega) (by omega)
  have w0 : wrapF .i64 ((0 : Int) + 0) = 0 := by decide
  have n1 : ¬ opt (a0.getD []) k < boundV (a0.getD []) k := by omega
  have n2 : ¬ y109 < opt (a0.getD []) k := by omega
  have n3 : ¬ opt (a0.getD []) k < y24 := by omega
  simp only [w0, decide_true, cond_true, n1, n2, n3, decide_false, cond_false, t11, hprod, hbs]
  by_cases h0 : (0 : Int) < ((a0.getD []).length : Int)
  · have hne : a0.getD [] ≠ [] := by intro h; rw [h] at h0; simp at h0
    have hto : WorkOk (a0.getD []).tail := ⟨by have := hwo.len; rw [List.length_tail]; omega, fun x hx => hwo.low x (List.mem_of_mem_tail hx), fun x hx => hwo.high x (List.mem_of_mem_tail hx)⟩
    have hzt := workE_of (k := (k : Int)) hto (by omega) (by omega)
    obtain ⟨s, e74, _, _⟩ := f74_opt (ow := ownI (some (a0.getD []).tail)) (w := (a0.getD []).tail) (k := k) rfl hzt
    have e62t : E62 (some (a0.getD []).tail) = some (ownI (some (a0.getD []).tail)) := exO_of (by simp only [Option.getD_some, List.length_tail]; omega)
    have hless : opt (a0.getD []).tail k ≤ opt (a0.getD []) k := by
      cases hc0 : a0.getD [] with
      | nil => exact absurd hc0 hne
      | cons x t =>
        have hx := hwo.low x (by rw [hc0]; exact List.mem_cons_self ..)
        exact opt_less hk1 (by omega)
    have n4 : ¬ opt (a0.getD []) k < opt (a0.getD []).tail k := by omega
    simp only [h0, decide_true, cond_true, cut_tail hne, obind_at, e62t, e74, n4, decide_false, cond_false]
  · simp only [h0, decide_false, cond_false]
theorem I12 (a0 a1 : Option (List Int)) (a2 : GPair8) (ha : 0 ≤ a2.a ∧ a2.a ≤ 255) (hb : 0 ≤ a2.b ∧ a2.b ≤ 255) (hlb : ∀ x ∈ a1.getD [], 0 ≤ x ∧ x ≤ 255) : callIso prL (X prL) 12 [sl 1 vint a0, sl 1 (vintk .u8) a1, .agg [.int .u8 a2.a, .int .u8 a2.b]] = some (.bool true, false) := W12 (loads_true a0 a1 a2 ha hb hlb)
end Go.Z
