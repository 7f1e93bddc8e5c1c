/-
  The best schedule: both searches.
-/
import Derived.Test.YtbkpojiedkhfkaaGreatB4
set_option linter.unusedVariables false
set_option linter.unusedSimpArgs false
set_option maxRecDepth 100000
set_option linter.unusedSimpArgs false
set_option linter.unusedVariables false
namespace Go.Z
open Go Go.Abs
abbrev Sch := List Int × Int
theorem range_atN {n i t : Nat} (h : (List.range n)[i]? = some t) : t = i ∧ i < n := by
  obtain ⟨h1, h2⟩ := List.getElem?_eq_some_iff.1 h
  rw [List.length_range] at h1
  exact ⟨by simpa using h2.symm, h1⟩
def upd (st : Option Sch) (r : Sch) : Option Sch := match st with
  | none => some r
  | some s => if r.2 < s.2 then some r else some s
theorem upd_some (st : Option Sch) (r : Sch) : ∃ s, upd st r = some s := by
  cases st with
  | none => exact ⟨r, rfl⟩
  | some s => unfold upd; simp only []; split <;> exact ⟨_, rfl⟩
theorem upd_upd (st : Option Sch) (a b : Sch) : upd (upd st a) b = match upd (some a) b with
    | some x => upd st x
    | none => st := by
  cases st with
  | none => 
    obtain ⟨s, hs⟩ := upd_some (some a) b
    show upd (some a) b = _
    rw [hs]; rfl
  | some s =>
    simp only [upd]
    by_cases h1 : a.2 < s.2
    · rw [if_pos h1]
      simp only []
      by_cases h2 : b.2 < a.2
      · rw [if_pos h2]; simp only []; rw [if_pos (show b.2 < s.2 by omega)]
      · rw [if_neg h2]; simp only []; rw [if_pos h1]
    · rw [if_neg h1]
      simp only []
      by_cases h2 : b.2 < a.2
      · rw [if_pos h2]
      · rw [if_neg h2]; simp only []; rw [if_neg h1, if_neg (show ¬ b.2 < s.2 by omega)]
theorem fold_some (r : Nat → Sch) : ∀ (l : List Nat) (a : Sch), ∃ s, l.foldl (fun st b => upd st (r b)) (some a) = some s
  | [], a => ⟨a, rfl⟩
  | b :: l, a => by
    obtain ⟨s, hs⟩ := upd_some (some a) (r b)
    rw [List.foldl_cons, hs]
    exact fold_some r l s
theorem fold_upd (r : Nat → Sch) : ∀ (l : List Nat) (st : Option Sch) (a : Sch), l.foldl (fun st b => upd st (r b)) (upd st a) = match l.foldl (fun st b => upd st (r b)) (some a) with
    | some x => upd st x
    | none => st
  | [], st, a => rfl
  | b :: l, st, a => by
    rw [List.foldl_cons, List.foldl_cons, upd_upd]
    obtain ⟨s, hs⟩ := upd_some (some a) (r b)
    rw [hs]
    exact fold_upd r l st s
theorem fold_low (r : Nat → Sch) (e : Int) : ∀ (l : List Nat) (a : Sch), (∀ b ∈ l, e ≤ (r b).2) → e ≤ a.2 → ∀ s, l.foldl (fun st b => upd st (r b)) (some a) = some s → e ≤ s.2
  | [], a, _, ha, s, hs => by cases hs; exact ha
  | b :: l, a, h, ha, s, hs => by
    rw [List.foldl_cons] at hs
    have hb := h b (List.mem_cons_self ..)
    have : upd (some a) (r b) = some (if (r b).2 < a.2 then r b else a) := by
      unfold upd; simp only []; split <;> rfl
    rw [this] at hs
    exact fold_low r e l _ (fun c hc => h c (List.mem_cons_of_mem _ hc)) (by split <;> assumption) s hs
def bestR (w : List Int) (k : Nat) : Nat → List Int → Sch
  | 0, l => (l, endS w l)
  | m + 1, l => ((List.range k).foldl (fun st (b : Nat) => upd st (bestR w k m (l ++ [(b : Int)]))) none).getD (l, 0)
theorem bestR_fold {w : List Int} {k m : Nat} {l : List Int} (hk : 1 ≤ k) : (List.range k).foldl (fun st (b : Nat) => upd st (bestR w k m (l ++ [(b : Int)]))) none = some (bestR w k (m + 1) l) := by
  obtain ⟨j, rfl⟩ : ∃ j, k = j + 1 := ⟨k - 1, by omega⟩
  rw [bestR]
  rw [List.range_succ_eq_map, List.foldl_cons]
  obtain ⟨s, hs⟩ := fold_some (fun b => bestR w (j + 1) m (l ++ [(b : Int)])) ((List.range j).map Nat.succ) (bestR w (j + 1) m (l ++ [((0 : Nat) : Int)]))
  have : upd none (bestR w (j + 1) m (l ++ [((0 : Nat) : Int)])) = some (bestR w (j + 1) m (l ++ [((0 : Nat) : Int)])) := rfl
  rw [this, hs]; rfl
theorem fold_from {w : List Int} {k m : Nat} {l : List Int} (hk : 1 ≤ k) (st : Option Sch) : (List.range k).foldl (fun st (b : Nat) => upd st (bestR w k m (l ++ [(b : Int)]))) st = upd st (bestR w k (m + 1) l) := by
  have h := bestR_fold (w := w) (k := k) (m := m) (l := l) hk
  obtain ⟨j, rfl⟩ : ∃ j, k = j + 1 := ⟨k - 1, by omega⟩
  rw [List.range_succ_eq_map, List.foldl_cons] at h ⊢
  rw [fold_upd]
  have e : upd none (bestR w (j + 1) m (l ++ [((0 : Nat) : Int)])) = some (bestR w (j + 1) m (l ++ [((0 : Nat) : Int)])) := rfl
  rw [e] at h
  rw [h]
theorem bestR_low {w : List Int} (hw : WorkOk w) {k : Nat} (hk : 1 ≤ k) : ∀ (m : Nat) (l : List Int), l.length + m = w.length → endS w l ≤ (bestR w k m l).2
  | 0, l, _ => Int.le_refl _
  | m + 1, l, hl => by
    have h := bestR_fold (w := w) (k := k) (m := m) (l := l) hk
    obtain ⟨j, hj⟩ : ∃ j, k = j + 1 := ⟨k - 1, by omega⟩
    have hb : ∀ b : Int, endS w l ≤ (bestR w k m (l ++ [b])).2 := fun b =>
      Int.le_trans (endS_snoc hw (by omega)) (bestR_low hw hk m (l ++ [b]) (by simp; omega))
    rw [hj, List.range_succ_eq_map, List.foldl_cons] at h
    rw [← hj] at h
    exact fold_low (fun b => bestR w k m (l ++ [(b : Int)])) (endS w l) _ _ (fun b _ => hb b) (hb _) _ h
def finS (st : Option Sch) : Int := match st with
  | some s => s.2
  | none => 0
theorem ap_one {α : Type} (l : List α) (x : α) (h : l.length + 1 ≤ 1073741824) : apO (some l) [x] = some (some (l ++ [x])) := by
  unfold apO apS
  simp [h]
theorem visit_loop {ow o : Option (List Int)} {w l : List Int} {k m : Nat} {rec : Option (List Int) → Option (List Int) → Int → Option (List Int) → Bool → Int → Option (Option (List Int) × Int × Bool)} {f : Int × Option (List Int) × Int × Bool → Option ((Int × Option (List Int) × Int × Bool) ⊕ (Int × Option (List Int) × Bool × Int))}
    (hend : ∀ b e o, f ((k : Int), b, e, o) = some (.inr ((k : Int), b, o, e)))
    (hstep : ∀ (b : Nat) st own, b < k → ∃ own', f ((b : Int), Option.map (fun s : Sch => s.1) st, finS st, own) = some (.inl (((b + 1 : Nat) : Int), Option.map (fun s : Sch => s.1) (upd st (bestR w k m (l ++ [(b : Int)]))), finS (upd st (bestR w k m (l ++ [(b : Int)]))), own'))) :
    ∀ (j i : Nat) st own, i + j = k → ∃ own', itO f ((i : Int), Option.map (fun s : Sch => s.1) st, finS st, own) = some ((k : Int), Option.map (fun s : Sch => s.1) ((List.range' i j).foldl (fun st (b : Nat) => upd st (bestR w k m (l ++ [(b : Int)]))) st), own', finS ((List.range' i j).foldl (fun st (b : Nat) => upd st (bestR w k m (l ++ [(b : Int)]))) st))
  | 0, i, st, own, hi => by
    have : i = k := by omega
    subst this
    exact ⟨own, by rw [itO_out (hend _ _ _)]; rfl⟩
  | j + 1, i, st, own, hi => by
    obtain ⟨own1, h1⟩ := hstep i st own (by omega)
    rw [itO_in h1]
    obtain ⟨own2, h2⟩ := visit_loop (rec := rec) (ow := ow) (o := o) hend hstep j (i + 1) (upd st (bestR w k m (l ++ [(i : Int)]))) own1 (by omega)
    exact ⟨own2, by rw [h2, List.range'_succ, List.foldl_cons]⟩
theorem f126_eq {ow : Option (List Int)} {w : List Int} {k : Nat} (h1 : ow.getD [] = w) (hw : WorkOk w) (hk0 : 1 ≤ k) (hk : k ≤ 4) : ∀ (m n : Nat) (o : Option (List Int)) (st : Option Sch) (own : Bool), m < n → (o.getD []).length + m = w.length → (m = 0 → o ≠ none) → (∀ x ∈ o.getD [], 0 ≤ x ∧ x < (k : Int)) →
    ∃ own', f126 n o ow (k : Int) (Option.map (fun s : Sch => s.1) st) own (finS st) = some (Option.map (fun s : Sch => s.1) (upd st (bestR w k m (o.getD []))), finS (upd st (bestR w k m (o.getD []))), own')
  | 0, n + 1, o, st, own, _, hl, ho, hx => by
    have hon := ho rfl
    obtain ⟨l, rfl⟩ : ∃ l, o = some l := by
      cases o with
      | none => exact absurd rfl hon
      | some l => exact ⟨l, rfl⟩
    have hlen := hw.len
    simp only [Option.getD_some, Nat.add_zero] at hl hx ⊢
    have he : (((Option.getD (some l) []).length : Int) = ((ow.getD []).length : Int)) := by rw [h1]; simp; omega
    have e142 : E142 (some l) = some (some l) := exO_of ⟨by simp; omega, by simp⟩
    have e129 : f129 ow (some l) = some (endS w l) := f129_eq h1 rfl hw (by omega) (fun x h => by have := hx x h; omega)
    show ∃ own', F126 (f126 n) (some l) ow (k : Int) _ own _ = _
    unfold F126
    cases st with
    | none => exact ⟨true, by simp only [Option.map_none, Option.isNone_none, cond_true, he, decide_true, Option.isNone_some, cond_false, e142, obind_at, e129]; rfl⟩
    | some s =>
      simp only [Option.map_some, Option.isNone_some, cond_false, e129, obind_at, finS]
      by_cases hge : s.2 ≤ endS w l
      · exact ⟨own, by simp only [hge, decide_true, cond_true, upd, bestR, show ¬ endS w l < s.2 by omega, if_false]; rfl⟩
      · exact ⟨true, by simp only [hge, decide_false, cond_false, he, decide_true, cond_true, e142, obind_at, upd, bestR, show endS w l < s.2 by omega, if_true]; rfl⟩
  | m + 1, n + 1, o, st, own, hn, hl, _, hx => by
    have hlen := hw.len
    have he : ¬ (((o.getD []).length : Int) = ((ow.getD []).length : Int)) := by rw [h1]; omega
    have hrec : ∀ (b : Nat) (st : Option Sch) (own : Bool), b < k → ∃ own', f126 n (some (o.getD [] ++ [(b : Int)])) ow (k : Int) (Option.map (fun s : Sch => s.1) st) own (finS st) = some (Option.map (fun s : Sch => s.1) (upd st (bestR w k m (o.getD [] ++ [(b : Int)]))), finS (upd st (bestR w k m (o.getD [] ++ [(b : Int)]))), own') := by
      intro b st own hb
      exact f126_eq h1 hw hk0 hk m n (some (o.getD [] ++ [(b : Int)])) st own (by omega) (by simp; omega) (fun _ => by simp) (by
        intro x hx'
        simp only [Option.getD_some, List.mem_append, List.mem_singleton] at hx'
        rcases hx' with hx' | rfl
        · exact hx x hx'
        · omega)
    have hloop0 : ∀ st own, ∃ own', itO (s126_0 o ow (k : Int) (f126 n)) (0, Option.map (fun s : Sch => s.1) st, finS st, own) = some ((k : Int), Option.map (fun s : Sch => s.1) (upd st (bestR w k (m + 1) (o.getD []))), own', finS (upd st (bestR w k (m + 1) (o.getD [])))) := by
      intro st own
      have := visit_loop (rec := f126 n) (ow := ow) (o := o) (w := w) (l := o.getD []) (k := k) (m := m) (f := s126_0 o ow (k : Int) (f126 n)) (by intro b e o'; unfold s126_0; simp) (by
        intro b st own hb
        obtain ⟨own', h⟩ := hrec b st own hb
        refine ⟨own', ?_⟩
        have hlt : (b : Int) < (k : Int) := by omega
        unfold s126_0
        cases o with
        | none => 
          simp only [hlt, decide_true, cond_true, Option.isNone_none, E142n, if_true, obind_at, wrap_nat (show b < 9223372036854775807 by omega)]
          simp only [Option.getD_none, List.nil_append] at h ⊢
          rw [h]; rfl
        | some l =>
          have e142 : E142 (some l) = some (some l) := exO_of ⟨by simp at hl ⊢; omega, by simp⟩
          have eap : apO (some l) [(b : Int)] = some (some (l ++ [(b : Int)])) := ap_one _ _ (by simp at hl; omega)
          simp only [hlt, decide_true, cond_true, cond_false, Option.isNone_some, e142, eap, obind_at, wrap_nat (show b < 9223372036854775807 by omega)]
          simp only [Option.getD_some] at h ⊢
          rw [h]; rfl) k 0 st own (by omega)
      rw [← List.range_eq_range', fold_from hk0] at this
      exact this
    have e129 : f129 ow o = some (endS w (o.getD [])) := f129_eq h1 rfl hw (by omega) (fun x h => by have := hx x h; omega)
    show ∃ own', F126 (f126 n) o ow (k : Int) _ own _ = _
    unfold F126
    cases st with
    | none =>
      obtain ⟨own', h⟩ := hloop0 none own
      simp only [Option.map_none, finS] at h
      exact ⟨own', by simp only [Option.map_none, Option.isNone_none, cond_true, he, decide_false, cond_false, finS, h, obind_at]⟩
    | some s =>
      simp only [Option.map_some, Option.isNone_some, cond_false, e129, obind_at, finS]
      by_cases hge : s.2 ≤ endS w (o.getD [])
      · refine ⟨own, ?_⟩
        have := bestR_low hw hk0 (m + 1) (o.getD []) (by omega)
        simp only [hge, decide_true, cond_true, upd, show ¬ (bestR w k (m + 1) (o.getD [])).2 < s.2 by omega, if_false]
        rfl
      · obtain ⟨own', h⟩ := hloop0 (some s) own
        have hb : s126_0b o ow (k : Int) (f126 n) = s126_0 o ow (k : Int) (f126 n) := rfl
        simp only [Option.map_some, finS] at h
        exact ⟨own', by simp only [hge, decide_false, cond_false, he, hb, h, obind_at]⟩
end Go.Z
