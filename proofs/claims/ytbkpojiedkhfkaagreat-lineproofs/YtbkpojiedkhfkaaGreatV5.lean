/-
  LineProofs: the product's search for a set: the sets one after another (a range over a function), and Prove.
-/
import Derived.Test.YtbkpojiedkhfkaaGreatV4
set_option linter.unusedVariables false
set_option linter.unusedSimpArgs false
set_option maxRecDepth 100000
set_option linter.unusedSimpArgs false
set_option linter.unusedVariables false
set_option maxHeartbeats 4000000
namespace Go.Z
open Go Go.Abs
def rfA : ACode → ACode
  | .rangeFunc _ _ a _ => a
  | x => x
def rfB : ACode → ACode
  | .rangeFunc _ _ _ b => b
  | x => x
def rf60 : ACode := pcB (pcR (pcR (pcB (pcL (pcR (pcR c60_0))))))
def as60 : ACode := rfA rf60
def bd60 : ACode := rfB rf60
theorem rf60_eq : rf60 = .rangeFunc (.tmp 31) [32] as60 bd60 := rfl
def E60 (n1 i : Int) : Env := [(2, .ptr 0 0, false), (3, .ptr 1 0, false), (4, .ptr 2 0, false), (5, .ptr 3 0, false), (24, .int .i64 n1, false), (25, .int .i64 i, false), (31, .fn (.func 140) [] [.ptr 5 0, .ptr 4 0], false)]
def HP (o : Option (List GUnit)) (below : Int) (R : AVal) (E n size n1 i : Int) (pd : Option AExit) : Heap :=
  [.cells [(sl 2 vunit o, false)], .cells [(.int .i64 below, false)], .cells [(R, false)], .cells [(.int .i64 E, false)], .cells [(.int .i64 n, false)], .cells [(.int .i64 size, false)], .loop ⟨E60 n1 i, [32], as60, bd60, pd⟩,
    .cells [(.fn (.yield 6) [] [], false)], .cells [(.fn (.func 141) [] [.ptr 5 0, .ptr 7 0, .ptr 4 0, .ptr 8 0], false)]]
section
variable {o : Option (List GUnit)} {below : Int} {R : AVal} {E n size n1 i : Int}
theorem as60_run {set : Option (List Int)} {H : Heap} : X pr as60 ⟨(32, sl 1 vint set, false) :: E60 n1 i, H⟩ = some (.normal, ⟨[(2, .ptr 0 0, false), (3, .ptr 1 0, false), (4, .ptr 2 0, false), (5, .ptr 3 0, false), (8, sl 1 vint set, false), (24, .int .i64 n1, false), (25, .int .i64 i, false), (32, sl 1 vint set, false)], H⟩) := by
  simp only [go_sem, seval, as60, rfA, rf60, pcB, pcL, pcR, c60_0, E60] <;> rfl
theorem bd60_f {set : Option (List Int)} (h : f119 o below set = some false) : ∃ e, X pr bd60 ⟨[(2, .ptr 0 0, false), (3, .ptr 1 0, false), (4, .ptr 2 0, false), (5, .ptr 3 0, false), (8, sl 1 vint set, false), (24, .int .i64 n1, false), (25, .int .i64 i, false), (32, sl 1 vint set, false)], HP o below R E n size n1 i (some .normal)⟩ = some (.normal, ⟨e, HP o below R E n size n1 i (some .normal)⟩) := by
  have h119 := W119 h
  simp only [go_sem, seval, bd60, rfB, rf60, pcB, pcL, pcR, c60_0, HP, h119]
  exact ⟨_, rfl⟩
theorem bd60_t {set : Option (List Int)} (h : f119 o below set = some true) : ∃ e, X pr bd60 ⟨[(2, .ptr 0 0, false), (3, .ptr 1 0, false), (4, .ptr 2 0, false), (5, .ptr 3 0, false), (8, sl 1 vint set, false), (24, .int .i64 n1, false), (25, .int .i64 i, false), (32, sl 1 vint set, false)], HP o below R E n size n1 i (some .normal)⟩ = some (.ret, ⟨e, HP o below (sl 1 vint set) 0 n size n1 i (some .normal)⟩) := by
  have h119 := W119 h
  simp only [go_sem, seval, bd60, rfB, rf60, pcB, pcL, pcR, c60_0, HP, h119]
  exact ⟨_, rfl⟩
theorem yield60 {set : Option (List Int)} {b : Bool} (h : f119 o below set = some b) : yieldOp (X pr) 6 [sl 1 vint set] (HP o below R E n size n1 i none) =
    some (.bool (!b), HP o below (bif b then sl 1 vint set else R) (bif b then 0 else E) n size n1 i (bif b then some .ret else none)) := by
  have g : ∀ pd R E, getBox (HP o below R E n size n1 i pd) 6 = some (.loop ⟨E60 n1 i, [32], as60, bd60, pd⟩) := fun _ _ _ => rfl
  have se : setEnvs (noOwn (E60 n1 i)) [32] [sl 1 vint set] = some ((32, sl 1 vint set, false) :: E60 n1 i) := rfl
  have st : ∀ pd pd' R E, (HP o below R E n size n1 i pd).set 6 (.loop ⟨E60 n1 i, [32], as60, bd60, pd'⟩) = HP o below R E n size n1 i pd' := fun _ _ _ _ => rfl
  have hl : ∀ pd R E, (HP o below R E n size n1 i pd).length = 9 := fun _ _ _ => rfl
  have ha : ∀ pd R E v, afterShared 9 v (HP o below R E n size n1 i pd) = HP o below R E n size n1 i pd := fun _ _ _ _ => after_same rfl
  unfold yieldOp
  cases b with
  | false =>
    obtain ⟨e, hb⟩ := bd60_f (R := R) (E := E) (n := n) (size := size) (n1 := n1) (i := i) h
    simp only [g, se, as60_run, Option.isNone_none, cond_true, st, hb, hl, ha]
    rfl
  | true =>
    obtain ⟨e, hb⟩ := bd60_t (R := R) (E := E) (n := n) (size := size) (n1 := n1) (i := i) h
    simp only [g, se, as60_run, Option.isNone_none, cond_true, st, hb, hl, ha]
    rfl
end
noncomputable def clO (o : Option (List Int)) : Option (Option (List Int)) := exO ((o.getD []).length ≤ 1073741824) o
theorem clO_run {o r : Option (List Int)} (h : clO o = some r) : ∃ b, callIso pr (X pr) 142 [sl 1 vint o] = some (sl 1 vint r, b) ∧ (b = true ∨ r = none) := by
  obtain ⟨h1, rfl⟩ := exO_some h
  cases o with
  | none => exact ⟨false, WE142n (o := none) (r := ()) rfl, .inr rfl⟩
  | some l => exact ⟨true, WE142 (exO_of ⟨h1, by simp⟩), .inl rfl⟩
abbrev Found := Option (Option (List Int))
abbrev RecS := Option (List Int) → Int → Option Found
noncomputable def s141 (rec : RecS) (n : Int) (set : Option (List Int)) (i : Int) : Option (Int ⊕ Found) :=
  cond (decide (i < n))
    (obind (clO set) fun c =>
     obind (apO c [i]) fun s' =>
     obind (rec s' (wrapF .i64 (i + 1))) fun r =>
     match r with
      | none => some (.inl (wrapF .i64 (i + 1)))
      | some x => some (.inr (some x)))
    (some (.inr none))
noncomputable def F141 (o : Option (List GUnit)) (below n size : Int) (rec : RecS) : RecS := fun set frm =>
  cond (decide (((set.getD []).length : Int) = size))
    (obind (clO set) fun c => obind (f119 o below c) fun b => some (bif b then some c else none))
    (itO (s141 rec n set) frm)
noncomputable def f141 (o : Option (List GUnit)) (below n size : Int) : Nat → RecS
  | 0 => fun _ _ => none
  | k + 1 => F141 o below n size (f141 o below n size k)
def outB (r : Found) : AVal := .bool r.isNone
def outR (R : AVal) (r : Found) : AVal := match r with
  | none => R
  | some x => sl 1 vint x
def outE (E : Int) (r : Found) : Int := match r with
  | none => E
  | some _ => 0
def outP (r : Found) : Option AExit := match r with
  | none => none
  | some _ => some .ret
section
variable {o : Option (List GUnit)} {below : Int} {R : AVal} {E n size n1 i : Int}
def St141 (set : Option (List Int)) (o : Option (List GUnit)) (below : Int) (R : AVal) (E n size n1 i : Int) (j : Int) : ASt := ⟨[(0, sl 1 vint set, false), (4, .ptr 4 0, false), (5, .ptr 8 0, false), (9, .int .i64 j, false)], HP o below R E n size n1 i none⟩
def Ex141 (set : Option (List Int)) (o : Option (List GUnit)) (below : Int) (R : AVal) (E n size n1 i : Int) : Int ⊕ Found → AExit × ASt
  | .inl j => (.exit 0, ⟨[(0, sl 1 vint set, false), (4, .ptr 4 0, false), (5, .ptr 8 0, false), (9, .int .i64 j, false), (21, .bool false, false)], HP o below R E n size n1 i none⟩)
  | .inr r => (.ret, ⟨[(8, .bool false, false)], HP o below (outR R r) (outE E r) n size n1 i (outP r)⟩)
noncomputable def s141' (rec : RecS) (n : Int) (set : Option (List Int)) (i : Int) : Option (Int ⊕ (Int ⊕ Found)) :=
  cond (decide (i < n))
    (obind (clO set) fun c =>
     obind (apO c [i]) fun s' =>
     obind (rec s' (wrapF .i64 (i + 1))) fun r =>
     match r with
      | none => some (.inl (wrapF .i64 (i + 1)))
      | some x => some (.inr (.inr (some x))))
    (some (.inr (.inl i)))
theorem s141_it {rec : RecS} {n : Int} {set : Option (List Int)} : ∀ {k : Nat} {i : Int} {d : Found}, itF (s141 rec n set) k i = some d → ∃ d', itF (s141' rec n set) k i = some d' ∧ (match d' with
      | .inl _ => d = none
      | .inr r => r = d ∧ d ≠ none)
  | 0, i, d, h => by cases h
  | k + 1, i, d, h => by
    rw [itF] at h
    have key : ∀ r, s141 rec n set i = some r → (∃ i', r = .inl i' ∧ s141' rec n set i = some (.inl i')) ∨ (r = .inr none ∧ s141' rec n set i = some (.inr (.inl i))) ∨ (∃ x, r = .inr (some x) ∧ s141' rec n set i = some (.inr (.inr (some x)))) := by
      intro r hr
      unfold s141 at hr
      unfold s141'
      rcases cond_split hr with ⟨h1, hr⟩ | ⟨h1, hr⟩
      · obtain ⟨c, h2, hr⟩ := obind_some hr
        obtain ⟨s', h3, hr⟩ := obind_some hr
        obtain ⟨x, h4, hr⟩ := obind_some hr
        simp only [h1, cond_true, h2, h3, h4, obind_at]
        cases x with
        | none => cases hr; exact .inl ⟨_, rfl, rfl⟩
        | some x => cases hr; exact .inr (.inr ⟨x, rfl, rfl⟩)
      · cases hr
        simp [h1]
    cases hs : s141 rec n set i with
    | none => rw [hs] at h; cases h
    | some r =>
      rw [hs] at h
      rw [itF]
      rcases key r hs with ⟨i', rfl, h2⟩ | ⟨rfl, h2⟩ | ⟨x, rfl, h2⟩
      · rw [h2]; exact s141_it h
      · cases h; rw [h2]; exact ⟨_, rfl, by trivial⟩
      · cases h; rw [h2]; exact ⟨_, rfl, by simp⟩
theorem s141_run {rec : RecS} {n : Int} {set : Option (List Int)} {i : Int} {d : Found} (h : itO (s141 rec n set) i = some d) : ∃ d', itO (s141' rec n set) i = some d' ∧ (match d' with
      | .inl _ => d = none
      | .inr r => r = d ∧ d ≠ none) := by
  obtain ⟨k, hk⟩ := itO_iff.1 h
  obtain ⟨d', h1, h2⟩ := s141_it hk
  exact ⟨d', itO_iff.2 ⟨k, h1⟩, h2⟩
def call141 (set : Option (List Int)) (frm : Int) : List AVal := [sl 1 vint set, .int .i64 frm, .ptr 5 0, .ptr 7 0, .ptr 4 0, .ptr 8 0]
theorem b141 {rec : RecS} (hrec : ∀ {set frm r}, rec set frm = some r → callFn pr (X pr) 141 (call141 set frm) (HP o below R E n size n1 i none) = some (outB r, false, HP o below (outR R r) (outE E r) n size n1 i (outP r)))
    (set : Option (List Int)) (j : Int) (r) (h : s141' rec n set j = some r) : stepO pr c141_0 (St141 set o below R E n size n1 i) (Ex141 set o below R E n size n1 i) j r := by
  unfold s141' at h
  rcases cond_split h with ⟨h1, h⟩ | ⟨h1, h⟩
  · obtain ⟨c, h2, h⟩ := obind_some h
    obtain ⟨s', h3, h⟩ := obind_some h
    obtain ⟨x, h4, h⟩ := obind_some h
    obtain ⟨b, h5, h6⟩ := clO_run h2
    have h7 := hrec h4
    unfold call141 at h7
    have ha : ∀ v R E pd, afterShared 9 v (HP o below R E n size n1 i pd) = HP o below R E n size n1 i pd := fun _ _ _ _ => after_same rfl
    simp only [HP] at h7 ha
    have happ : ∀ (t : Nat) (h : Heap) (b' : Nat), b = true → appR 1 b' h (some t) (some (sl 1 vint c)) (some (.list false 1 [.int .i64 j])) = ifR (decide (b' ≤ 4096)) (some ⟨sl 1 vint s', true, some t, h⟩) := fun t h b' _ => app_vint_O h3
    cases x with
    | none =>
      cases h
      simp only [outB, outR, outE, outP, Option.isNone_none] at h7
      cases b with
      | true => exact stepO_in (st' := ⟨_, _⟩) (by simp only [go_sem, seval, c141_0, St141, HP, h1, h5, app_vint_O h3, h7, ha] <;> rfl) (gc_same (Nat.le_refl _))
      | false =>
        have hc : c = none := h6.resolve_left (by simp)
        subst hc
        exact stepO_in (st' := ⟨_, _⟩) (by simp only [go_sem, seval, c141_0, St141, HP, h1, h5, app_vint_N h3 rfl, h7, ha] <;> rfl) (gc_same (Nat.le_refl _))
    | some x =>
      cases h
      simp only [outB, outR, outE, outP, Option.isNone_some] at h7
      cases b with
      | true => exact stepO_out (by simp only [go_sem, seval, c141_0, St141, Ex141, HP, h1, h5, app_vint_O h3, h7, ha] <;> rfl)
      | false =>
        have hc : c = none := h6.resolve_left (by simp)
        subst hc
        exact stepO_out (by simp only [go_sem, seval, c141_0, St141, Ex141, HP, h1, h5, app_vint_N h3 rfl, h7, ha] <;> rfl)
  · cases h
    exact stepO_out (by simp only [go_sem, seval, c141_0, St141, Ex141, HP, h1] <;> rfl)
theorem W141 : ∀ (k : Nat) {set : Option (List Int)} {frm : Int} {r : Found}, f141 o below n size k set frm = some r → callFn pr (X pr) 141 (call141 set frm) (HP o below R E n size n1 i none) = some (outB r, false, HP o below (outR R r) (outE E r) n size n1 i (outP r))
  | 0, _, _, _, h => by cases h
  | k + 1, set, frm, r, h => by
    have h : F141 o below n size (f141 o below n size k) set frm = some r := h
    unfold F141 at h
    rcases cond_split h with ⟨h1, h⟩ | ⟨h1, h⟩
    · obtain ⟨c, h2, h⟩ := obind_some h
      obtain ⟨b, h3, h⟩ := obind_some h
      cases h
      obtain ⟨bo, h5, _⟩ := clO_run h2
      have hy := yield60 (R := R) (E := E) (n := n) (size := size) (n1 := n1) (i := i) h3
      unfold call141
      rw [callFn_at (show pr.fns 141 = some c141 from rfl) (by simp)]
      simp only [HP] at hy ⊢
      cases b with
      | true => 
        simp only [cond_true, Bool.not_true] at hy
        simp only [go_sem, seval, c141, h1, h5, hy, outB, outR, outE, outP] <;> rfl
      | false =>
        simp only [cond_false, Bool.not_false] at hy
        simp only [go_sem, seval, c141, h1, h5, hy, outB, outR, outE, outP] <;> rfl
    · obtain ⟨d', h2, h3⟩ := s141_run h
      have hl : X pr (.loop c141_0) (St141 set o below R E n size n1 i frm) = some (Ex141 set o below R E n size n1 i d') := X_itO (b141 (fun h' => W141 k h') set) (fun d => by rcases d with d | d <;> (intro hh; cases hh)) h2
      unfold call141
      rw [callFn_at (show pr.fns 141 = some c141 from rfl) (by simp)]
      cases d' with
      | inl j =>
        simp only [] at h3
        subst h3
        simp only [St141, Ex141, HP] at hl ⊢
        simp only [go_sem, seval, c141, h1, hl, outB, outR, outE, outP] <;> rfl
      | inr x =>
        simp only [] at h3
        obtain ⟨rfl, h4⟩ := h3
        cases x with
        | none => exact absurd rfl h4
        | some x =>
          simp only [St141, Ex141, HP, outR, outE, outP] at hl ⊢
          simp only [go_sem, seval, c141, h1, hl, outB, outR, outE, outP] <;> rfl
end
end Go.Z
