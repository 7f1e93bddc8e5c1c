/-
  LineBenches: its law holds of the functions that mirror the runs.
-/
import Derived.Test.YtbkpojiedkhfkaaGreatB7
set_option linter.unusedVariables false
set_option linter.unusedSimpArgs false
set_option maxRecDepth 100000
set_option linter.unusedSimpArgs false
set_option linter.unusedVariables false
namespace Go.Z
open Go Go.Abs
theorem numB_zero (e : Int) (h : e ≠ 0) (want : Int) : numB 0 e e want = true := by unfold numB; simp [h]
theorem numB_fine (a : Int) : numB a 0 0 a = true := by unfold numB; simp
theorem f76_bad {ow : Option (List Int)} {k : Int} (hl : (ow.getD []).length ≤ 1000) (hz : ¬ workE (ow.getD []) k = 0) : f76 ow k = some (0, workE (ow.getD []) k) := by
  unfold f76
  simp [f125_eq hl, hz]
theorem ownI_getD (o : Option (List Int)) : (ownI o).getD [] = o.getD [] := rfl
theorem f78_nil {ow : Option (List Int)} {k : Int} (hne : ow.getD [] = []) (h1 : 1 ≤ k) (h4 : k ≤ 4) : f78 10 ow k none = some (none, 0) := by
  have hwo : WorkOk [] := ⟨by simp, by simp, by simp⟩
  have e81 : f81 ow k none = some (endS [] []) := f81_eq hne rfl hwo (by simp) h1 h4 (by simp)
  show F78 (f78 9) ow k none = _
  unfold F78
  simp only [hne, Option.getD_none, decide_true, cond_true, e81, obind_at]
  rfl
theorem E39_same {a b : Option (List Int)} (h : (a.getD []).length ≤ 1073741824) (he : a.getD [] = b.getD []) : E39 a b = some true := by
  unfold E39; rw [exO_of h]; simp [he]
theorem benches_part (ow ol : Option (List Int)) (k : Int) (hw : (ow.getD []).length ≤ 9) (hl : (ol.getD []).length ≤ 9) :
    ∃ s74 s75 s76, f74 (ownI ow) k = some s74 ∧ f75 (ownI ow) k (ownI ol) = some s75 ∧ f76 (ownI ow) k = some s76 ∧ f77 ow k = some (workE (ow.getD []) k) ∧
      (workE (ow.getD []) k = 0 → ∃ r78 b, f78 10 ow k none = some r78 ∧ f79 ow k = some b ∧ f80 ow k ol = some (schE (ow.getD []) k (ol.getD [])) ∧
        (schE (ow.getD []) k (ol.getD []) = 0 → ∃ e, f81 ow k ol = some e ∧ s75 = (e, 0)) ∧ (schE (ow.getD []) k (ol.getD []) ≠ 0 → s75 = (0, schE (ow.getD []) k (ol.getD []))) ∧
        E39 s74.1 r78.1 = some true ∧ s74.2 = (r78.2, 0) ∧ s76 = (b, 0)) ∧
      (workE (ow.getD []) k ≠ 0 → E39 s74.1 none = some true ∧ s74.2 = (0, workE (ow.getD []) k) ∧ s75 = (0, workE (ow.getD []) k) ∧ s76 = (0, workE (ow.getD []) k)) := by
  have hlw : ((ownI ow).getD []).length ≤ 1000 := by rw [ownI_getD]; omega
  have hll : ((ownI ol).getD []).length ≤ 1000 := by rw [ownI_getD]; omega
  have h77 := f77_eq (o := ow) (k := k) (by omega)
  have h75 := f75_eq (ow := ownI ow) (ol := ownI ol) (k := k) hlw hll
  by_cases hz : workE (ow.getD []) k = 0
  · obtain ⟨hwo, hk1, hk4⟩ := workE_ok hz
    obtain ⟨n, rfl⟩ : ∃ n : Nat, k = (n : Int) := ⟨k.toNat, by omega⟩
    obtain ⟨h76, _⟩ := bound_both (ow := ownI ow) (k := n) (ownI_getD ow) hwo (by omega) (by omega) hz
    obtain ⟨_, h79⟩ := bound_both (ow := ow) (k := n) rfl hwo (by omega) (by omega) hz
    have h80 := f80_eq (ow := ow) (ol := ol) (k := (n : Int)) (by omega) hk1 hk4
    rw [if_pos (show workE ((ownI ow).getD []) (n : Int) = 0 from hz)] at h75
    have h75 : f75 (ownI ow) (n : Int) (ownI ol) = some (if schE (ow.getD []) (n : Int) (ol.getD []) = 0 then (endS (ow.getD []) (ol.getD []), 0) else (0, schE (ow.getD []) (n : Int) (ol.getD []))) := h75
    have hend : schE (ow.getD []) (n : Int) (ol.getD []) = 0 → f81 ow (n : Int) ol = some (endS (ow.getD []) (ol.getD [])) := by
      intro hs
      unfold schE at hs
      by_cases he : (ol.getD []).length = (ow.getD []).length
      · rw [if_pos he] at hs
        by_cases hb : (ol.getD []).any (badX (n : Int)) = true
        · rw [if_pos hb] at hs; cases hs
        · exact f81_eq rfl rfl hwo (by omega) hk1 hk4 (each_bad (by simpa using hb))
      · rw [if_neg he] at hs; cases hs
    by_cases hne : ow.getD [] = []
    · have h74 := f74_nil (ow := ownI ow) (k := (n : Int)) (by rw [ownI_getD]; exact hne)
      have hz' : workE [] (n : Int) = 0 := by rw [hne] at hz; exact hz
      rw [hz'] at h74
      refine ⟨_, _, _, h74, h75, h76, h77, fun _ => ⟨_, _, f78_nil hne hk1 hk4, h79, h80, ?_, ?_, E39_same (by simp) rfl, rfl, rfl⟩, fun h => absurd hz h⟩
      · intro hs; exact ⟨_, hend hs, by rw [if_pos hs]⟩
      · intro hs; rw [if_neg hs]
    · have h74 := f74_eq (ow := ownI ow) (k := (n : Int)) hlw (by rw [ownI_getD]; exact hne)
      rw [if_pos (show workE ((ownI ow).getD []) (n : Int) = 0 from hz), Int.toNat_natCast] at h74
      simp only [ownI_getD] at h74
      have hlen := hwo.len
      have hpos := List.length_pos_iff.2 hne
      have h78 := f78_eq (ow := ow) rfl hwo (k := n) (by omega) (by omega) (ow.getD []).length 10 none (by omega) (by simp) (by simp)
      rw [if_neg (by omega)] at h78
      simp only [Option.getD_none] at h78
      have hbl : ∀ (m : Nat) (l : List Int), l.length + m = (ow.getD []).length → (bestR (ow.getD []) n m l).1.length = (ow.getD []).length := by
        intro m
        induction m with
        | zero => intro l hl; simpa [bestR] using hl
        | succ m ih =>
          intro l hl
          have hf := bestR_fold (w := ow.getD []) (k := n) (m := m) (l := l) (by omega)
          have : ∀ (bs : List Nat) (st : Option Sch) (s : Sch), (∀ s, st = some s → s.1.length = (ow.getD []).length) → bs.foldl (fun st (b : Nat) => upd st (bestR (ow.getD []) n m (l ++ [(b : Int)]))) st = some s → s.1.length = (ow.getD []).length := by
            intro bs
            induction bs with
            | nil => intro st s h hs; exact h s hs
            | cons b bs ihb =>
              intro st s h hs
              rw [List.foldl_cons] at hs
              refine ihb _ s ?_ hs
              intro s' hs'
              have hr := ih (l ++ [(b : Int)]) (by simp; omega)
              cases st with
              | none => cases hs'; exact hr
              | some x =>
                unfold upd at hs'
                simp only [] at hs'
                split at hs'
                · cases hs'; exact hr
                · cases hs'; exact h _ rfl
          exact this _ none _ (fun s h => by cases h) hf
      have hb := hbl (ow.getD []).length [] (by simp)
      refine ⟨_, _, _, h74, h75, h76, h77, fun _ => ⟨_, _, h78, h79, h80, ?_, ?_, E39_same (by simp [hb]; omega) rfl, rfl, rfl⟩, fun h => absurd hz h⟩
      · intro hs; exact ⟨_, hend hs, by rw [if_pos hs]⟩
      · intro hs; rw [if_neg hs]
  · have h74 : f74 (ownI ow) k = some (none, 0, workE (ow.getD []) k) := by
      by_cases hne : ow.getD [] = []
      · have := f74_nil (ow := ownI ow) (k := k) (by rw [ownI_getD]; exact hne)
        rw [this, hne]
      · have := f74_eq (ow := ownI ow) (k := k) hlw (by rw [ownI_getD]; exact hne)
        rw [if_neg (show ¬ workE ((ownI ow).getD []) k = 0 from hz)] at this
        exact this
    have h76 := f76_bad (ow := ownI ow) (k := k) hlw (by rw [ownI_getD]; exact hz)
    simp only [ownI_getD] at h76
    rw [if_neg (show ¬ workE ((ownI ow).getD []) k = 0 from hz)] at h75
    have h75 : f75 (ownI ow) k (ownI ol) = some (0, workE (ow.getD []) k) := h75
    exact ⟨_, _, _, h74, h75, h76, h77, fun h => absurd h hz, fun _ => ⟨E39_same (by simp) rfl, rfl, rfl, rfl⟩⟩
set_option maxHeartbeats 4000000 in
theorem benches_true (ow ol : Option (List Int)) (k : Int) : f11 ow k ol = some true := by
  unfold f11
  simp only [E14, obind_at, cond_true]
  have main : (ow.getD []).length ≤ 9 → (ol.getD []).length ≤ 9 → ∀ (T : Bool), T = true → _ := fun h1 h2 T hT => benches_part ow ol k h1 h2
  by_cases h6 : (6 : Int) < ((ow.getD []).length : Int)
  · by_cases h9 : ((ow.getD []).length : Int) = 9
    · by_cases hl : (9 : Int) < ((ol.getD []).length : Int)
      · simp [h6, h9, hl]
      · obtain ⟨s74, s75, s76, e74, e75, e76, e77, hok, hbad⟩ := benches_part ow ol k (by omega) (by omega)
        have e62w : E62 ow = some (ownI ow) := exO_of (by omega)
        have e62l : E62 ol = some (ownI ol) := exO_of (by omega)
        simp only [h6, h9, hl, decide_true, decide_false, cond_true, cond_false, e62w, e62l, obind_at, e74, e75, e76, e77]
        by_cases hz : workE (ow.getD []) k = 0
        · obtain ⟨r78, b, e78, e79, e80, he, hn, e39, h74, h76⟩ := hok hz
          obtain ⟨p, q, r⟩ := s74
          obtain ⟨p', q'⟩ := s76
          cases h74; cases h76
          by_cases hs : schE (ow.getD []) k (ol.getD []) = 0
          · obtain ⟨e, e81, h75⟩ := he hs
            subst h75
            simp [hz, hs, e78, e79, e80, e81, e39, E40, numB_fine]
          · have h75 := hn hs
            subst h75
            simp [hz, hs, e78, e79, e80, e39, E40, numB_fine, numB_zero _ hs]
        · obtain ⟨e39, h74, h75, h76⟩ := hbad hz
          obtain ⟨p, q, r⟩ := s74
          cases h74; subst h75; subst h76
          simp [hz, e39, E40, numB_zero _ hz]
    · simp [h6, h9]
  · by_cases hl : (9 : Int) < ((ol.getD []).length : Int)
    · simp [h6, hl]
    · obtain ⟨s74, s75, s76, e74, e75, e76, e77, hok, hbad⟩ := benches_part ow ol k (by omega) (by omega)
      have e62w : E62 ow = some (ownI ow) := exO_of (by omega)
      have e62l : E62 ol = some (ownI ol) := exO_of (by omega)
      simp only [h6, hl, decide_true, decide_false, cond_true, cond_false, e62w, e62l, obind_at, e74, e75, e76, e77]
      by_cases hz : workE (ow.getD []) k = 0
      · obtain ⟨r78, b, e78, e79, e80, he, hn, e39, h74, h76⟩ := hok hz
        obtain ⟨p, q, r⟩ := s74
        obtain ⟨p', q'⟩ := s76
        cases h74; cases h76
        by_cases hs : schE (ow.getD []) k (ol.getD []) = 0
        · obtain ⟨e, e81, h75⟩ := he hs
          subst h75
          simp [hz, hs, e78, e79, e80, e81, e39, E40, numB_fine]
        · have h75 := hn hs
          subst h75
          simp [hz, hs, e78, e79, e80, e39, E40, numB_fine, numB_zero _ hs]
      · obtain ⟨e39, h74, h75, h76⟩ := hbad hz
        obtain ⟨p, q, r⟩ := s74
        cases h74; subst h75; subst h76
        simp [hz, e39, E40, numB_zero _ hz]
theorem I11 (ow : Option (List Int)) (k : Int) (ol : Option (List Int)) : callIso pr (X pr) 11 [sl 1 vint ow, .int .i64 k, sl 1 vint ol] = some (.bool true, false) := W11 (benches_true ow ol k)
end Go.Z
