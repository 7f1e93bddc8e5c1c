/-
  The best schedule: the search that leaves out what cannot be better, and the one that tries all, find the same.
-/
import Derived.Test.YtbkpojiedkhfkaaGreatB2
import Derived.Test.YtbkpojiedkhfkaaGreatG0m
set_option linter.unusedVariables false
set_option linter.unusedSimpArgs false
set_option maxRecDepth 100000
set_option linter.unusedSimpArgs false
set_option linter.unusedVariables false
namespace Go.Z
open Go Go.Abs
def sB (zw : List (Int × Int)) (b : Int) : Int := zw.foldl (fun s xw => if xw.1 = b then s + xw.2 else s) 0
def endZ (zw : List (Int × Int)) : Int := max (max (max (sB zw 0) (sB zw 1)) (sB zw 2)) (sB zw 3)
def endS (w l : List Int) : Int := endZ (l.zip w)
structure WorkOk (w : List Int) : Prop where
  len : w.length ≤ 8
  low : ∀ x ∈ w, 1 ≤ x
  high : ∀ x ∈ w, x ≤ 100000
def zwOk (zw : List (Int × Int)) : Prop := ∀ xw ∈ zw, 0 ≤ xw.1 ∧ xw.1 ≤ 3 ∧ 1 ≤ xw.2 ∧ xw.2 ≤ 100000
theorem sB_snoc (zw : List (Int × Int)) (xw : Int × Int) (b : Int) : sB (zw ++ [xw]) b = if xw.1 = b then sB zw b + xw.2 else sB zw b := by
  unfold sB; rw [List.foldl_append]; rfl
theorem sB_fold (b : Int) : ∀ (zw : List (Int × Int)) (s : Int), zw.foldl (fun s xw => if xw.1 = b then s + xw.2 else s) s = s + sB zw b
  | [], s => by simp [sB]
  | xw :: zw, s => by
    unfold sB
    simp only [List.foldl_cons]
    rw [sB_fold b zw, sB_fold b zw]
    split <;> omega
theorem sB_bounds {zw : List (Int × Int)} (h : zwOk zw) (b : Int) : 0 ≤ sB zw b ∧ sB zw b ≤ 100000 * zw.length := by
  induction zw with
  | nil => simp [sB]
  | cons xw zw ih =>
    have h1 := h xw (List.mem_cons_self ..)
    obtain ⟨h2, h3⟩ := ih fun y hy => h y (List.mem_cons_of_mem _ hy)
    have e : sB (xw :: zw) b = (if xw.1 = b then 0 + xw.2 else 0) + sB zw b := by
      show (xw :: zw).foldl (fun s xw => if xw.1 = b then s + xw.2 else s) 0 = _
      rw [List.foldl_cons, sB_fold]
    rw [e]
    simp only [List.length_cons, Int.natCast_add]
    split <;> omega
theorem zw_ok {w l : List Int} (hw : WorkOk w) (hl : ∀ x ∈ l, 0 ≤ x ∧ x ≤ 3) : zwOk (l.zip w) := by
  intro xw h
  have h1 := hl _ (List.of_mem_zip h).1
  have h2 := hw.low _ (List.of_mem_zip h).2
  have h3 := hw.high _ (List.of_mem_zip h).2
  omega
theorem zip_len {w l : List Int} (h : l.length ≤ w.length) : (l.zip w).length = l.length := by rw [List.length_zip]; omega
theorem zip_snoc {w l : List Int} {b x : Int} (hx : w[l.length]? = some x) : (l ++ [b]).zip w = l.zip w ++ [(b, x)] := by
  induction l generalizing w with
  | nil => cases w with
    | nil => cases hx
    | cons y w => simp at hx; subst hx; simp
  | cons a l ih => cases w with
    | nil => simp at hx
    | cons y w =>
      simp only [List.cons_append, List.zip_cons_cons]
      rw [ih (by simpa using hx)]
theorem endS_snoc {w l : List Int} {b : Int} (hw : WorkOk w) (h : l.length < w.length) : endS w l ≤ endS w (l ++ [b]) := by
  obtain ⟨x, hx⟩ : ∃ x, w[l.length]? = some x := ⟨_, List.getElem?_eq_getElem h⟩
  have h1 := hw.low x (List.mem_of_getElem? hx)
  unfold endS endZ
  rw [zip_snoc hx, sB_snoc, sB_snoc, sB_snoc, sB_snoc]
  dsimp only
  have key : ∀ c, sB (l.zip w) c ≤ if b = c then sB (l.zip w) c + x else sB (l.zip w) c := by intro c; split <;> omega
  have k0 := key 0; have k1 := key 1; have k2 := key 2; have k3 := key 3
  omega
def addS (s : List Int) (xw : Int × Int) : List Int := s.set xw.1.toNat (s.getD xw.1.toNat 0 + xw.2)
theorem addS_four {x w a b c d : Int} (h0 : 0 ≤ x) (h3 : x ≤ 3) : addS [a, b, c, d] (x, w) = [if x = 0 then a + w else a, if x = 1 then b + w else b, if x = 2 then c + w else c, if x = 3 then d + w else d] := by
  have : x = 0 ∨ x = 1 ∨ x = 2 ∨ x = 3 := by omega
  rcases this with rfl | rfl | rfl | rfl <;> simp [addS]
theorem sums_eq : ∀ (zw : List (Int × Int)), zwOk zw → ∀ a b c d : Int, zw.foldl addS [a, b, c, d] = [a + sB zw 0, b + sB zw 1, c + sB zw 2, d + sB zw 3]
  | [], _, a, b, c, d => by simp [sB]
  | (x, w) :: zw, h, a, b, c, d => by
    have h1 := h _ (List.mem_cons_self ..)
    rw [List.foldl_cons, addS_four h1.1 h1.2.1, sums_eq zw fun y hy => h y (List.mem_cons_of_mem _ hy)]
    have e : ∀ c, sB ((x, w) :: zw) c = (if x = c then 0 + w else 0) + sB zw c := fun c => by
      show ((x, w) :: zw).foldl (fun s xw => if xw.1 = c then s + xw.2 else s) 0 = _
      rw [List.foldl_cons, sB_fold]
    rw [e, e, e, e]
    congr 1
    · split <;> omega
    · congr 1
      · split <;> omega
      · congr 1
        · split <;> omega
        · congr 1
          split <;> omega
theorem f93_four (a b c d : Int) : f93m 4 [a, b, c, d] = some (max (max (max a b) c) d) := by
  have w2 : wrapF .i64 2 = 2 := by decide
  have w3 : wrapF .i64 3 = 3 := by decide
  have w4 : wrapF .i64 4 = 4 := by decide
  have e1 : s93_0m 4 [a, b, c, d] (a, 1) = some (.inl (max a b, 2)) := by unfold s93_0m; simp [idxM, w2]
  have e2 : s93_0m 4 [a, b, c, d] (max a b, 2) = some (.inl (max (max a b) c, 3)) := by unfold s93_0m; simp [idxM, w3]
  have e3 : s93_0m 4 [a, b, c, d] (max (max a b) c, 3) = some (.inl (max (max (max a b) c) d, 4)) := by unfold s93_0m; simp [idxM, w4]
  have e4 : s93_0m 4 [a, b, c, d] (max (max (max a b) c) d, 4) = some (.inr (max (max (max a b) c) d, 4)) := by unfold s93_0m; simp
  have i0 : idxM 4 [a, b, c, d] 0 = some a := by simp [idxM]
  unfold f93m
  rw [show decide (((4 : Nat) : Int) < 1) = false from by decide, cond_false, i0]
  simp only [obind_at]
  rw [itO_in e1, itO_in e2, itO_in e3, itO_out e4]
  rfl
theorem idxM_at {n : Nat} {l : List Int} {i : Nat} (h : i < n) : idxM n l (i : Int) = l[i]? := by
  unfold idxM; rw [if_pos ⟨by omega, by omega⟩]; simp
theorem f129_eq {ow ol : Option (List Int)} {w l : List Int} (h1 : ow.getD [] = w) (h2 : ol.getD [] = l) (hw : WorkOk w) (hl : l.length ≤ w.length) (hx : ∀ x ∈ l, 0 ≤ x ∧ x ≤ 3) : f129 ow ol = some (endS w l) := by
  have hz := zw_ok hw hx
  have hzl := zip_len hl
  have key := itO_list (δ := Int × List Int) (ε := Empty) (l.zip w) (s129_0 ow ol) (fun i s => ((i : Int), s)) (fun i s xw => .inl (addS s xw)) (fun s => ((l.length : Int), s)) (fun d => nomatch d)
    (fun i s => s = ((l.zip w).take i).foldl addS [0, 0, 0, 0]) [0, 0, 0, 0] ?_ ?_ rfl
  · unfold f129
    rw [Int.natCast_zero] at key
    rw [key]
    have hf : runL (δ := Empty) (fun _ s xw => .inl (addS s xw)) 0 [0, 0, 0, 0] (l.zip w) = .inl ((l.zip w).foldl addS [0, 0, 0, 0]) := runL_fold addS _ _ _
    rw [hf, sums_eq _ hz]
    simp only [obind_at, f93_four]
    unfold endS endZ
    simp
  · intro s hs
    rw [hzl]
    unfold s129_0
    simp [h2]
  · intro i s xw hi hlt hs
    obtain ⟨x, y⟩ := xw
    rw [List.getElem?_zip_eq_some] at hi
    obtain ⟨hxi, hyi⟩ := hi
    rw [hzl] at hlt
    have hxb := hx x (List.mem_of_getElem? hxi)
    have hyb1 := hw.low y (List.mem_of_getElem? hyi)
    have hyb2 := hw.high y (List.mem_of_getElem? hyi)
    have hzt : zwOk ((l.zip w).take i) := fun z hz' => hz z (List.mem_of_mem_take hz')
    rw [sums_eq _ hzt] at hs
    simp only [Int.zero_add] at hs
    have hlen : ((l.zip w).take i).length ≤ 8 := by have := hw.len; rw [List.length_take]; omega
    have b0 := sB_bounds hzt 0; have b1 := sB_bounds hzt 1; have b2 := sB_bounds hzt 2; have b3 := sB_bounds hzt 3
    dsimp only
    have hi1 : ((i : Int) < (l.length : Int)) := by omega
    have hwi : wrapF .i64 ((i : Int) + 1) = ((i + 1 : Nat) : Int) := wrap_nat (by have := hw.len; omega)
    refine ⟨?_, ?_⟩
    · subst hs
      rw [List.take_add_one, List.foldl_append]
      have : (l.zip w)[i]? = some (x, y) := by rw [List.getElem?_zip_eq_some]; exact ⟨hxi, hyi⟩
      rw [this, sums_eq _ hzt]
      simp
    · unfold s129_0
      simp only [hi1, decide_true, cond_true, idxO_nat, h2, hxi, obind_at, h1, hyi, hwi]
      have hxn : x = ((x.toNat : Nat) : Int) := by omega
      have hget : s[x.toNat]? = some (s.getD x.toNat 0) := by
        rw [List.getD_eq_getElem?_getD, List.getElem?_eq_getElem (by rw [hs]; simp; omega)]; rfl
      have hbnd : 0 ≤ s.getD x.toNat 0 ∧ s.getD x.toNat 0 ≤ 800000 := by
        have : x = 0 ∨ x = 1 ∨ x = 2 ∨ x = 3 := by omega
        rcases this with rfl | rfl | rfl | rfl <;> rw [hs] <;> simp <;> omega
      rw [hxn, idxM_at (by omega), hget, ← hxn]
      simp only [obind_at]
      rw [wrapF_i64 (by omega) (by omega)]
      rfl
end Go.Z
