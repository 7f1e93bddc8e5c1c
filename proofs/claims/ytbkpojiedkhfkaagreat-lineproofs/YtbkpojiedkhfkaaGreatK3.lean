/-
  LineProofs: the reference's part is the part that hangs together, too.
-/
import Derived.Test.YtbkpojiedkhfkaaGreatK1
import Derived.Test.YtbkpojiedkhfkaaGreatV1
import Derived.Test.YtbkpojiedkhfkaaGreatQ3
import Derived.Test.YtbkpojiedkhfkaaGreatV4
set_option linter.unusedVariables false
set_option linter.unusedSimpArgs false
set_option maxRecDepth 100000
set_option linter.unusedSimpArgs false
set_option linter.unusedVariables false
namespace Go.Z
open Go Go.Abs
def Free (n : Nat) (s : List Int) (x : Int) : Prop := 0 ≤ x ∧ x < (n : Int) ∧ x ∉ s
theorem free_len {n : Nat} {s p : List Int} (h : p.Nodup) (hp : ∀ x ∈ p, Free n s x) : p.length ≤ n := by
  have := nodup_sub_len (m := (List.range n).map fun (i : Nat) => (i : Int)) h fun x hx => by
    have := hp x hx
    unfold Free at this
    exact List.mem_map.2 ⟨x.toNat, List.mem_range.2 (by omega), by omega⟩
  simpa using this
section
variable {l : List GUnit} {o : Option (List GUnit)} {below : Int} (hu : UnitsOk l) (ho : o.getD [] = l) (hl : l.length ≤ 100)
include hu ho hl
theorem inner121 {s p : List Int} {i : Int} {at_ : Nat} (hsl : s.length ≤ 200) (hp : p.Nodup) (hpL : ∀ x ∈ p, Free l.length s x) (hat : at_ < p.length)
    (hmin : ∀ E : Int → Prop, E i → (∀ x, E x → ∀ y, Free l.length s y → near l below x y = true → E y) → ∀ x ∈ p, E x) (s0 : Option (List Int) × Int × Int) :
    ∃ ext, itO (s121_2 o below s0 (some (s ++ p), some p, (at_ : Int))) (some (s ++ p), some p, 0) = some (some (s ++ (p ++ ext)), some (p ++ ext), (l.length : Int)) ∧ (p ++ ext).Nodup ∧ (∀ x ∈ p ++ ext, Free l.length s x) ∧
      (∀ y, Free l.length s y → near l below p[at_] y = true → y ∈ p ++ ext) ∧ (∀ E : Int → Prop, E i → (∀ x, E x → ∀ y, Free l.length s y → near l below x y = true → E y) → ∀ x ∈ p ++ ext, E x) := by
  have hx := hpL p[at_] (List.getElem_mem hat)
  let Inv : Option (List Int) × Option (List Int) × Int → Prop := fun st => ∃ (k : Nat) (ext : List Int), st = (some (s ++ (p ++ ext)), some (p ++ ext), (k : Int)) ∧ k ≤ l.length ∧ (p ++ ext).Nodup ∧ (∀ x ∈ p ++ ext, Free l.length s x) ∧
    (∀ y, Free l.length s y → y < (k : Int) → near l below p[at_] y = true → y ∈ p ++ ext) ∧ (∀ E : Int → Prop, E i → (∀ x, E x → ∀ y, Free l.length s y → near l below x y = true → E y) → ∀ x ∈ p ++ ext, E x)
  have key := itO_total (f := s121_2 o below s0 (some (s ++ p), some p, (at_ : Int))) Inv (fun d => ∃ ext, d = (some (s ++ (p ++ ext)), some (p ++ ext), (l.length : Int)) ∧ (p ++ ext).Nodup ∧ (∀ x ∈ p ++ ext, Free l.length s x) ∧
      (∀ y, Free l.length s y → near l below p[at_] y = true → y ∈ p ++ ext) ∧ (∀ E : Int → Prop, E i → (∀ x, E x → ∀ y, Free l.length s y → near l below x y = true → E y) → ∀ x ∈ p ++ ext, E x)) (fun st => l.length - st.2.2.toNat) (by
    rintro st ⟨k, ext, rfl, hk, h1, h2, h3, h4⟩
    have hlen := free_len h1 h2
    have hlen2 : (s ++ (p ++ ext)).length ≤ 1000 := by rw [List.length_append]; omega
    by_cases hlt : k < l.length
    · refine .inl ?_
      have hlt' : (k : Int) < (l.length : Int) := by omega
      have hw : wrapF .i64 ((k : Int) + 1) = ((k + 1 : Nat) : Int) := wrap_nat (by omega)
      have hmem : f124 (some (s ++ (p ++ ext))) (k : Int) = some (memI (s ++ (p ++ ext)) (k : Int)) := f124_eq rfl hlen2
      have stay : (¬ Free l.length s (k : Int) ∨ (k : Int) ∈ p ++ ext ∨ near l below p[at_] (k : Int) = false) → s121_2 o below s0 (some (s ++ p), some p, (at_ : Int)) (some (s ++ (p ++ ext)), some (p ++ ext), (k : Int)) = some (.inl (some (s ++ (p ++ ext)), some (p ++ ext), ((k + 1 : Nat) : Int))) →
          ∃ s', s121_2 o below s0 (some (s ++ p), some p, (at_ : Int)) (some (s ++ (p ++ ext)), some (p ++ ext), (k : Int)) = some (.inl s') ∧ Inv s' ∧ l.length - s'.2.2.toNat < l.length - (k : Int).toNat := by
        intro hno hs
        refine ⟨_, hs, ⟨k + 1, ext, rfl, by omega, h1, h2, fun y hy hyk hya => ?_, h4⟩, by simp only; omega⟩
        by_cases hyk2 : y = (k : Int)
        · subst hyk2
          rcases hno with h | h | h
          · exact absurd hy h
          · exact h
          · rw [h] at hya; cases hya
        · exact h3 y hy (by omega) hya
      by_cases hin : (k : Int) ∈ s ++ (p ++ ext)
      · refine stay ?_ ?_
        · rcases List.mem_append.1 hin with h | h
          · exact .inl fun hf => hf.2.2 h
          · exact .inr (.inl h)
        · unfold s121_2
          simp only [ho, hlt', decide_true, cond_true, hmem, memI_iff.2 hin, obind_at, hw]
      · have hmm := memI_not.2 hin
        have hfree : Free l.length s (k : Int) := ⟨by omega, hlt', fun h => hin (List.mem_append_left _ h)⟩
        obtain ⟨u, w, g1, g2, g3⟩ := d_at hu hx.1 hx.2.1 (show (0 : Int) ≤ (k : Int) by omega) hlt'
        have hidx : idxO (p ++ ext) (at_ : Int) = some p[at_] := by rw [idxO_nat, List.getElem?_append_left hat, List.getElem?_eq_getElem hat]
        by_cases hnear : dAt l p[at_] (k : Int) < below
        · have hna : near l below p[at_] (k : Int) = true := by unfold near; simp [hnear]
          have hs : s121_2 o below s0 (some (s ++ p), some p, (at_ : Int)) (some (s ++ (p ++ ext)), some (p ++ ext), (k : Int)) = some (.inl (some (s ++ (p ++ (ext ++ [(k : Int)]))), some (p ++ (ext ++ [(k : Int)])), ((k + 1 : Nat) : Int))) := by
            unfold s121_2
            simp only [ho, hlt', decide_true, cond_true, hmem, hmm, obind_at, cond_false, Option.getD_some, hidx, g1, g2, f68_f115, g3, hnear, hw, ap_one (p ++ ext) (k : Int) (by omega), ap_one (s ++ (p ++ ext)) (k : Int) (by omega), List.append_assoc]
          have hkp : (k : Int) ∉ p ++ ext := fun h => hin (List.mem_append_right _ h)
          refine ⟨_, hs, ⟨k + 1, ext ++ [(k : Int)], rfl, by omega, ?_, ?_, ?_, ?_⟩, by simp only; omega⟩
          · rw [← List.append_assoc]
            exact List.nodup_append.2 ⟨h1, by simp, fun a ha b hb hab => hkp (by rw [List.mem_singleton.1 hb] at hab; exact hab ▸ ha)⟩
          · intro x hx'
            rw [← List.append_assoc] at hx'
            rcases List.mem_append.1 hx' with h | h
            · exact h2 x h
            · exact List.mem_singleton.1 h ▸ hfree
          · intro y hy hyk hya
            rw [← List.append_assoc]
            by_cases hyk2 : y = (k : Int)
            · exact List.mem_append_right _ (List.mem_singleton.2 hyk2)
            · exact List.mem_append_left _ (h3 y hy (by omega) hya)
          · intro E hE hcl x hx'
            rw [← List.append_assoc] at hx'
            rcases List.mem_append.1 hx' with h | h
            · exact h4 E hE hcl x h
            · rw [List.mem_singleton.1 h]
              exact hcl p[at_] (h4 E hE hcl _ (List.mem_append_left _ (List.getElem_mem hat))) _ hfree hna
        · refine stay (.inr (.inr (by unfold near; simp [hnear]))) ?_
          unfold s121_2
          simp only [ho, hlt', decide_true, cond_true, hmem, hmm, obind_at, cond_false, Option.getD_some, hidx, g1, g2, f68_f115, g3, hnear, decide_false, hw]
    · have hk2 : k = l.length := by omega
      subst hk2
      refine .inr ⟨(some (s ++ (p ++ ext)), some (p ++ ext), (l.length : Int)), ?_, ext, rfl, h1, h2, fun y hy hya => h3 y hy hy.2.1 hya, h4⟩
      unfold s121_2
      simp [ho]) l.length (some (s ++ p), some p, 0) (by simp) ⟨0, [], by simp, by omega, by simpa using hp, by simpa using hpL, fun y hy hyk => by have := hy.1; omega, by simpa using hmin⟩
  obtain ⟨d, hd, ext, rfl, q1, q2, q3, q4⟩ := key
  exact ⟨ext, hd, q1, q2, q3, q4⟩
theorem outer121 {s : List Int} {i : Int} (hsl : s.length ≤ 200) (hi : Free l.length s i) (s0 : Option (List Int) × Int × Int) :
    ∃ p, itO (s121_1 o below s0) (some (s ++ [i]), some [i], 0) = some (some (s ++ p), some p, (p.length : Int)) ∧ IsPart (near l below) (Free l.length s) i p := by
  let Inv : Option (List Int) × Option (List Int) × Int → Prop := fun st => ∃ (at_ : Nat) (p : List Int), st = (some (s ++ p), some p, (at_ : Int)) ∧ at_ ≤ p.length ∧ p.Nodup ∧ i ∈ p ∧ (∀ x ∈ p, Free l.length s x) ∧
    (∀ (t : Nat) (ht : t < p.length), t < at_ → ∀ y, Free l.length s y → near l below p[t] y = true → y ∈ p) ∧ (∀ E : Int → Prop, E i → (∀ x, E x → ∀ y, Free l.length s y → near l below x y = true → E y) → ∀ x ∈ p, E x)
  have key := itO_total (f := s121_1 o below s0) Inv (fun d => ∃ p, d = (some (s ++ p), some p, (p.length : Int)) ∧ IsPart (near l below) (Free l.length s) i p) (fun st => l.length - st.2.2.toNat) (by
    rintro st ⟨at_, p, rfl, hat, h1, h2, h3, h4, h5⟩
    have hlen := free_len h1 h3
    by_cases hlt : at_ < p.length
    · refine .inl ?_
      have hlt' : (at_ : Int) < (p.length : Int) := by omega
      have hw : wrapF .i64 ((at_ : Int) + 1) = ((at_ + 1 : Nat) : Int) := wrap_nat (by omega)
      obtain ⟨ext, e1, e2, e3, e4, e5⟩ := inner121 (below := below) hu ho hl hsl h1 h3 hlt h5 s0
      have hs : s121_1 o below s0 (some (s ++ p), some p, (at_ : Int)) = some (.inl (some (s ++ (p ++ ext)), some (p ++ ext), ((at_ + 1 : Nat) : Int))) := by
        unfold s121_1
        simp only [Option.getD_some, hlt', decide_true, cond_true, e1, obind_at, hw]
      refine ⟨_, hs, ⟨at_ + 1, p ++ ext, rfl, by rw [List.length_append]; omega, e2, List.mem_append_left _ h2, e3, ?_, e5⟩, by simp only; omega⟩
      intro t ht hta y hy hya
      by_cases ht2 : t = at_
      · subst ht2
        rw [List.getElem_append_left hlt] at hya
        exact e4 y hy hya
      · have htp : t < p.length := by omega
        rw [List.getElem_append_left htp] at hya
        exact List.mem_append_left _ (h4 t htp (by omega) y hy hya)
    · have hat2 : at_ = p.length := by omega
      subst hat2
      refine .inr ⟨(some (s ++ p), some p, (p.length : Int)), ?_, p, rfl, h1, h2, h3, ?_, h5⟩
      · unfold s121_1
        simp
      · intro x hx y hy hxy
        obtain ⟨t, ht, rfl⟩ := List.getElem_of_mem hx
        exact h4 t ht ht y hy hxy) l.length (some (s ++ [i]), some [i], 0) (by simp) ⟨0, [i], rfl, by simp, by simp, by simp, fun x hx => List.mem_singleton.1 hx ▸ hi, fun t ht h => by omega, fun E hE _ x hx => List.mem_singleton.1 hx ▸ hE⟩
  obtain ⟨d, hd, p, rfl, hp⟩ := key
  exact ⟨p, hd, hp⟩
end
end Go.Z
/-
  LineProofs: both count the parts with an odd number alike.
-/
set_option maxRecDepth 100000
set_option linter.unusedSimpArgs false
set_option linter.unusedVariables false
namespace Go.Z
open Go Go.Abs
section
variable {l l' : List GUnit} {o o' : Option (List GUnit)} {below : Int}
theorem loops_same (ho : o.getD [] = l) (ho' : o'.getD [] = l') (hll : l'.length = l.length) (hnear : near l' below = near l below) (hu : UnitsOk l) (hu' : UnitsOk l') (hl : l.length ≤ 64) (a2 : Option (List Int)) :
    ∀ (j i : Nat) (m s : List Int) (c : Int), i + j = l.length → m.Nodup → (∀ x, x ∈ m ↔ Free l.length s x) → s.length + (l.length) ≤ 200 → (s.length + m.length ≤ 136) → 0 ≤ c → c ≤ i →
      ∃ (m' s' : List Int) (c' : Int), itO (s119_1 o' below a2) (c, (i : Int), m) = some (c', (l.length : Int), m') ∧ itO (s121_0 o below) (some s, c, (i : Int)) = some (some s', c', (l.length : Int))
  | 0, i, m, s, c, hi, hm, hms, hsl, hsm, hc0, hc => by
    have : i = l.length := by omega
    subst this
    refine ⟨m, s, c, itO_out ?_, itO_out ?_⟩
    · unfold s119_1; simp [ho', hll]
    · unfold s121_0; simp [ho]
  | j + 1, i, m, s, c, hi, hm, hms, hsl, hsm, hc0, hc => by
    have hlt : (i : Int) < (l.length : Int) := by omega
    have hw : wrapF .i64 ((i : Int) + 1) = ((i + 1 : Nat) : Int) := wrap_nat (by omega)
    have hmem : f124 (some s) (i : Int) = some (memI s (i : Int)) := f124_eq rfl (by omega)
    by_cases hin : (i : Int) ∈ s
    · have h1 : memI m (i : Int) = false := memI_not.2 fun h => ((hms _).1 h).2.2 hin
      have e1 : s119_1 o' below a2 (c, (i : Int), m) = some (.inl (c, ((i + 1 : Nat) : Int), m)) := by
        unfold s119_1
        simp only [ho', hll, hlt, decide_true, cond_true, h1, cond_false, hw]
      have e2 : s121_0 o below (some s, c, (i : Int)) = some (.inl (some s, c, ((i + 1 : Nat) : Int))) := by
        unfold s121_0
        simp only [ho, hlt, decide_true, cond_true, hmem, memI_iff.2 hin, obind_at, hw]
      rw [itO_in e1, itO_in e2]
      exact loops_same ho ho' hll hnear hu hu' hl a2 j (i + 1) m s c (by omega) hm hms hsl hsm hc0 (by omega)
    · have hfree : Free l.length s (i : Int) := ⟨by omega, hlt, hin⟩
      have him : (i : Int) ∈ m := (hms _).2 hfree
      have h1 : memI m (i : Int) = true := memI_iff.2 him
      have hml : m.length ≤ l.length := free_len (s := s) hm fun x hx => (hms x).1 hx
      obtain ⟨D, m', q1, q2, q3, q4⟩ := part_eq (below := below) hu' ho' (by omega) 70 m (i : Int) (by omega) hm (fun x hx => by have := (hms x).1 hx; exact ⟨this.1, by rw [hll]; exact this.2.1⟩) him
      rw [hnear] at q2
      obtain ⟨p, r1, r2⟩ := outer121 (below := below) hu ho (by omega) (by omega) hfree (some s, c, (i : Int))
      obtain ⟨hDp, hlen⟩ := q2.same r2 hms
      have hDl : D.length ≤ l.length := by rw [hlen]; exact free_len r2.nd r2.ins
      have hap : apO (some s) [(i : Int)] = some (some (s ++ [(i : Int)])) := ap_one s _ (by omega)
      have hrem : ∀ x : Nat, remO (x : Int) 2 = some ((x % 2 : Nat) : Int) := fun x => by unfold remO; rw [if_neg (by decide)]; rfl
      have hms' : ∀ x, x ∈ m' ↔ Free l.length (s ++ p) x := by
        intro x
        rw [q4, hms, hDp]
        unfold Free
        rw [List.mem_append]
        constructor
        · rintro ⟨⟨a, b, c⟩, d⟩; exact ⟨a, b, fun h => h.elim c d⟩
        · rintro ⟨a, b, c⟩; exact ⟨⟨a, b, fun h => c (.inl h)⟩, fun h => c (.inr h)⟩
      have hcount : m'.length + p.length ≤ m.length := by
        have := nodup_sub_len (l := m' ++ D) (m := m) (List.nodup_append.2 ⟨q3, q2.nd, fun a ha b hb hab => ((q4 a).1 ha).2 (hab ▸ hb)⟩) (fun x hx => by
          rcases List.mem_append.1 hx with h | h
          · exact ((q4 x).1 h).1
          · exact q2.ins x h)
        rw [List.length_append] at this
        omega
      have e2 : s121_0 o below (some s, c, (i : Int)) = some (.inl (some (s ++ p), wrapF .i64 (c + ((p.length % 2 : Nat) : Int)), ((i + 1 : Nat) : Int))) := by
        unfold s121_0
        simp only [ho, hlt, decide_true, cond_true, hmem, memI_not.2 hin, obind_at, cond_false, hap, r1, Option.getD_some, hrem, hw]
      have hpl : p.length ≤ l.length := by omega
      have hw2 : wrapF .i64 (c + ((p.length % 2 : Nat) : Int)) = c + ((p.length % 2 : Nat) : Int) := wrapF_i64 (by omega) (by omega)
      rw [hw2] at e2
      have e1 : s119_1 o' below a2 (c, (i : Int), m) = some (.inl (c + ((p.length % 2 : Nat) : Int), ((i + 1 : Nat) : Int), m')) := by
        unfold s119_1
        simp only [ho', hll, hlt, decide_true, cond_true, h1, q1, obind_at, hrem, hw, hlen]
        by_cases hz : p.length % 2 = 0
        · rw [hz]
          simp
        · have h21 : p.length % 2 = 1 := by omega
          rw [h21]
          have hw3 : wrapF .i64 (c + 1) = c + 1 := wrapF_i64 (by omega) (by omega)
          have hne : ¬ ((1 : Nat) : Int) = 0 := by decide
          simp only [hne, decide_false, cond_false, hw3]
          rfl
      rw [itO_in e1, itO_in e2]
      have hsp : (s ++ p).length = s.length + p.length := List.length_append
      exact loops_same ho ho' hll hnear hu hu' hl a2 j (i + 1) m' (s ++ p) _ (by omega) q3 hms' (by omega) (by omega) (by omega) (by omega)
theorem left_eq (ho' : o'.getD [] = l') (hll : l'.length = l.length) (hl : l.length ≤ 64) {a2 : Option (List Int)} {set : List Int} (h2 : a2.getD [] = set) (hs : set.length ≤ 64) : ∀ (j i : Nat) (m : List Int), i + j = l.length → m.Nodup → (∀ x, x ∈ m ↔ Free i set x) →
    ∃ m' : List Int, itO (s119_0 o' below a2) ((i : Int), m) = some ((l.length : Int), m') ∧ m'.Nodup ∧ ∀ x, x ∈ m' ↔ Free l.length set x
  | 0, i, m, hi, hm, hms => by
    have : i = l.length := by omega
    subst this
    exact ⟨m, itO_out (by unfold s119_0; simp [ho', hll]), hm, hms⟩
  | j + 1, i, m, hi, hm, hms => by
    have hlt : (i : Int) < (l.length : Int) := by omega
    have hw : wrapF .i64 ((i : Int) + 1) = ((i + 1 : Nat) : Int) := wrap_nat (by omega)
    have h143 : f143 a2 (i : Int) = some (memI set (i : Int)) := by
      have h116 : ∃ k : Int, f116 a2 (i : Int) = some k ∧ (decide (0 ≤ k)) = memI set (i : Int) := by
        have key : ∀ (m t : Nat), t + m = set.length → ∃ d, itO (s116_0 a2 (i : Int)) (t : Int) = some d ∧ (match d with
            | .inl k => 0 ≤ k ∧ (set.drop t).contains (i : Int) = true
            | .inr _ => (set.drop t).contains (i : Int) = false) := by
          intro m
          induction m with
          | zero =>
            intro t ht
            have hlt2 : ¬ (t : Int) < (set.length : Int) := by omega
            have e : set.drop t = [] := List.drop_eq_nil_of_le (by omega)
            refine ⟨.inr (t : Int), itO_out ?_, by rw [e]; rfl⟩
            unfold s116_0
            simp only [h2, hlt2, decide_false, cond_false]
          | succ m ih =>
            intro t ht
            have htl : t < set.length := by omega
            have hlt2 : (t : Int) < (set.length : Int) := by omega
            rw [List.drop_eq_getElem_cons htl, List.contains_cons]
            by_cases he : (i : Int) = set[t]
            · refine ⟨.inl (t : Int), itO_out ?_, by omega, by rw [he]; simp⟩
              unfold s116_0
              simp only [h2, hlt2, decide_true, cond_true, idxO_nat, List.getElem?_eq_getElem htl, obind_at, he]
            · have hb : ((i : Int) == set[t]) = false := by rw [beq_eq_false_iff_ne]; exact he
              have es : s116_0 a2 (i : Int) (t : Int) = some (.inl ((t + 1 : Nat) : Int)) := by
                unfold s116_0
                simp only [h2, hlt2, decide_true, cond_true, idxO_nat, List.getElem?_eq_getElem htl, obind_at, he, decide_false, cond_false, wrap_nat (show t < 9223372036854775807 by omega)]
              rw [itO_in es, hb, Bool.false_or]
              exact ih (t + 1) (by omega)
        obtain ⟨d, hd, hq⟩ := key set.length 0 (by omega)
        rw [List.drop_zero, Int.natCast_zero] at *
        unfold f116
        rw [hd]
        cases d with
        | inl k =>
          simp only [] at hq
          exact ⟨k, rfl, by unfold memI; rw [hq.2]; simp [hq.1]⟩
        | inr k =>
          simp only [] at hq
          exact ⟨-1, rfl, by unfold memI; rw [hq]; rfl⟩
      obtain ⟨k, e1, e2⟩ := h116
      unfold f143
      rw [e1]
      simp only [obind_at, e2]
    by_cases hin : (i : Int) ∈ set
    · have e : s119_0 o' below a2 ((i : Int), m) = some (.inl (((i + 1 : Nat) : Int), m)) := by
        unfold s119_0
        simp only [ho', hll, hlt, decide_true, cond_true, h143, memI_iff.2 hin, obind_at, hw]
      rw [itO_in e]
      refine left_eq ho' hll hl h2 hs j (i + 1) m (by omega) hm fun x => ?_
      rw [hms]
      unfold Free
      constructor
      · rintro ⟨a, b, c⟩; exact ⟨a, by omega, c⟩
      · rintro ⟨a, b, c⟩
        refine ⟨a, ?_, c⟩
        by_cases hx : x = (i : Int)
        · exact absurd (hx ▸ hin) c
        · omega
    · have hnm : memI m (i : Int) = false := memI_not.2 fun h => by have := ((hms _).1 h).2.1; omega
      have hml : m.length ≤ i := free_len hm fun x hx => (hms x).1 hx
      have hadd : addO m (i : Int) = some (m ++ [(i : Int)]) := by
        unfold addO
        rw [hnm]
        simp only [Bool.false_eq_true, if_false]
        rw [if_pos (by omega)]
      have e : s119_0 o' below a2 ((i : Int), m) = some (.inl (((i + 1 : Nat) : Int), m ++ [(i : Int)])) := by
        unfold s119_0
        simp only [ho', hll, hlt, decide_true, cond_true, h143, memI_not.2 hin, obind_at, cond_false, hadd, hw]
      rw [itO_in e]
      refine left_eq ho' hll hl h2 hs j (i + 1) (m ++ [(i : Int)]) (by omega) (List.nodup_append.2 ⟨hm, by simp, fun a ha b hb hab => by
        rw [List.mem_singleton.1 hb] at hab
        exact memI_not.1 hnm (hab ▸ ha)⟩) fun x => ?_
      rw [List.mem_append, hms, List.mem_singleton]
      unfold Free
      constructor
      · rintro (⟨a, b, c⟩ | rfl)
        · exact ⟨a, by omega, c⟩
        · exact ⟨by omega, by omega, hin⟩
      · rintro ⟨a, b, c⟩
        by_cases hx : x = (i : Int)
        · exact .inr hx
        · exact .inl ⟨a, by omega, c⟩
theorem odd_same (ho : o.getD [] = l) (ho' : o'.getD [] = l') (hll : l'.length = l.length) (hnear : near l' below = near l below) (hu : UnitsOk l) (hu' : UnitsOk l') (hl : l.length ≤ 64) {a2 a2' : Option (List Int)} {set : List Int} (h2 : a2.getD [] = set) (h2' : a2'.getD [] = set) (hs : set.length ≤ 64) :
    ∃ c : Int, f121 o below a2 = some c ∧ f119 o' below a2' = some (decide ((set.length : Int) < c)) := by
  obtain ⟨m, e1, m1, m2⟩ := left_eq (below := below) ho' hll hl h2' hs l.length 0 [] (by omega) List.nodup_nil (fun x => by
    unfold Free; simp only [List.not_mem_nil, false_iff]; rintro ⟨a, b, c⟩; omega)
  have hml : m.length ≤ l.length := free_len m1 fun x hx => (m2 x).1 hx
  obtain ⟨m', s', c', e2, e3⟩ := loops_same (below := below) ho ho' hll hnear hu hu' hl a2' l.length 0 m set 0 (by omega) m1 m2 (by omega) (by omega) (by omega) (by omega)
  refine ⟨c', ?_, ?_⟩
  · unfold f121
    rw [h2, ap_nil set (by omega)]
    rw [Int.natCast_zero] at e3
    simp only [obind_at, e3]
  · unfold f119
    rw [Int.natCast_zero] at e1 e2
    rw [e1]
    simp only [obind_at, e2, h2']
end
end Go.Z
