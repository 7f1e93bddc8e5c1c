/-
  Lists of truth values.
-/
import Derived.Test.YtbkpojiedkhfkaaGreatG0
import Derived.Test.YtbkpojiedkhfkaaGreatG0m
import Derived.Test.YtbkpojiedkhfkaaGreatP7
import Derived.Test.YtbkpojiedkhfkaaGreatAbsH
set_option linter.unusedVariables false
set_option linter.unusedSimpArgs false
set_option linter.unusedSimpArgs false
namespace Go.Z
open Go Go.Abs
end Go.Z
/-
  Runs with ghost places: loops; boxes of truth values; a box that is shut, a list that is thawed.
-/
set_option maxRecDepth 100000
set_option linter.unusedSimpArgs false
namespace Go.Z
open Go Go.Abs
def stepG {σ δ : Type} (p : AProg) (c : GCode) (St : σ → ASt) (Ex : δ → AExit × ASt) (s : σ) : σ ⊕ δ → Prop
  | .inl s' => ∃ st', GRun p c (St s) .normal st' ∧ gc (St s).heap.length st' = St s'
  | .inr d => GRun p c (St s) (Ex d).1 (Ex d).2
theorem G_itF {σ δ : Type} {p : AProg} {c : GCode} {St : σ → ASt} {Ex : δ → AExit × ASt} {f : σ → Option (σ ⊕ δ)} (hb : ∀ s r, f s = some r → stepG p c St Ex s r) (hX : ∀ d, (Ex d).1 ≠ .normal) : ∀ {n : Nat} {s : σ} {d : δ}, itF f n s = some d → GRun p (.loop c) (St s) (Ex d).1 (Ex d).2
  | 0, s, d, h => by cases h
  | n + 1, s, d, h => by
    simp only [itF] at h
    cases hf : f s with
    | none => rw [hf] at h; cases h
    | some r =>
      rw [hf] at h
      have hs := hb s r hf
      cases r with
      | inl s' =>
        obtain ⟨st', h1, h2⟩ := hs
        exact .loopN h1 (by rw [h2]; exact G_itF hb hX h)
      | inr d' =>
        cases h
        exact .loopX hs (hX d)
theorem G_itO {σ δ : Type} {p : AProg} {c : GCode} {St : σ → ASt} {Ex : δ → AExit × ASt} {f : σ → Option (σ ⊕ δ)} (hb : ∀ s r, f s = some r → stepG p c St Ex s r) (hX : ∀ d, (Ex d).1 ≠ .normal) {s : σ} {d : δ} (h : itO f s = some d) : GRun p (.loop c) (St s) (Ex d).1 (Ex d).2 := by
  obtain ⟨n, hn⟩ := itO_iff.1 h
  exact G_itF hb hX hn
section
variable {p : AProg} {xc : XC} {h0 : Nat} {al : Option (List Nat)} {e : Env} {h : Heap}
def bcl (xs : List Bool) : List (AVal × Bool) := xs.map fun x => (.bool x, false)
theorem bcl_len {xs : List Bool} : (bcl xs).length = xs.length := by simp [bcl]
def idxB (n : Nat) (l : List Bool) (i : Int) : Option Bool := if 0 ≤ i ∧ i < n then l[i.toNat]? else none
theorem idxB_some {n : Nat} {l : List Bool} {i : Int} {v : Bool} (hv : idxB n l i = some v) : 0 ≤ i ∧ i < n ∧ l[i.toNat]? = some v := by
  unfold idxB at hv
  split at hv
  · next hi => exact ⟨hi.1, hi.2, hv⟩
  · cases hv
theorem idx_msB {n b : Nat} {k : IntKind} {l : List Bool} {i : Int} {v : Bool} (hv : idxB n l i = some v) : idxR 1 h (some (.ms b 0 n)) (some (.int k i)) = some ⟨.ptr b i.toNat, false, none, h⟩ := by
  obtain ⟨h1, h2, _⟩ := idxB_some hv
  simp only [idxR, idx_int, idxI_in h1 h2, val, Nat.zero_add, Nat.mul_one]
theorem st_bcl {l : List Bool} {i : Nat} {v x : Bool} (hv : l[i]? = some v) : storeCellsA (bcl l) i [.bool x] = some (bcl (l.set i x)) := by
  obtain ⟨h1, h2⟩ := List.getElem?_eq_some_iff.1 hv
  have hs : isScalarCell (.bool x) = true := rfl
  simp only [storeCells_eq, bcl_len, List.length_cons, List.length_nil, show i + (0 + 1) ≤ l.length by omega, decide_true, List.all_cons, List.all_nil, hs, Bool.and_self, stC_true, List.map_cons, List.map_nil]
  congr 1
  unfold bcl
  rw [List.map_set, List.set_eq_take_append_cons_drop, if_pos (by rw [List.length_map]; exact h1), List.append_assoc]
  rfl
theorem st_msB {n : Nat} {l : List Bool} {i : Int} {v x : Bool} (hv : idxB n l i = some v) : storeCellsA (bcl l) i.toNat [.bool x] = some (bcl (l.set i.toNat x)) := st_bcl (idxB_some hv).2.2
def capB (l : List Bool) : Option (List Bool) := if l.length ≤ 1073741824 then some l else none
theorem cells_bools {l : List Bool} : cellsOf ((l.map vbool).flatMap AVal.flat) = bcl l := by
  induction l with
  | nil => rfl
  | cons x l ih => simp only [List.map_cons, List.flatMap_cons]; simp only [cellsOf, bcl] at ih ⊢; simp only [List.map_append, ih]; rfl
theorem appB_B {r b t : Nat} {o : Option (List Bool)} {v : List Bool} (hv : capB (o.getD []) = some v) : appBR h0 r 1 b h (some t) (some (.list false 1 [])) (some (sl 1 vbool o)) = ifR (decide (b ≤ 4096)) (boxOwn (some t) (.ms (h0 + r) 0 v.length) (newBox h0 h r (.cells (bcl v)))) := by
  unfold capB at hv
  split at hv
  · next hn =>
    cases hv
    simp only [appBR, Option.isSome_some, nat_beq, decide_true, Bool.and_self, cond_true, src_sl, List.length_map, nat_ble, nat_blt, hn, Bool.true_and, cells_bools]
    by_cases hb : b ≤ 4096
    · simp only [hb, decide_true, Bool.and_self, cond_true, ifR, boxOwn, show (0 : Nat) < 1 from by decide]
    · simp only [hb, decide_false, Bool.false_and, cond_false, ifR]
  · cases hv
theorem shut_bools {s : Nat} {env : Env} {l : List Bool} {o : Bool} (hs : Abs.look s env = some (.ms 0 0 l.length, o)) (he : (env.all fun y => Nat.beq y.1 s || below 0 y.2.1) = true) :
    sealAt s ⟨env, [.cells (bcl l)]⟩ = some ⟨(s, sl 1 vbool (some l), false) :: env, []⟩ := by
  unfold sealAt
  simp only [hs]
  have h1 : ((bcl l).all fun c => plainV c.1) = true := by
    rw [List.all_eq_true]; intro x hx
    obtain ⟨b, _, rfl⟩ := List.mem_map.1 hx
    rfl
  have h2 : Nat.beq l.length (bcl l).length = true := by rw [bcl_len]; exact Nat.beq_refl _
  simp only [h1, h2, he, Bool.and_self, cond_true]
  have h3 : (bcl l).map (·.1) = l.map vbool := by unfold bcl; rw [List.map_map]; rfl
  rw [h3]; rfl
end
noncomputable def withP (p : AProg) (more : Prims) (op : Nat → Bool) : AProg := { fns := p.fns, prims := fun k => bif op k then none else match more k with
  | some f => some f
  | none => bif (p.fns k).isSome || (p.prims k).isSome then some fun args => callIso p (X p) k args else none }
theorem callIso_known {p : AProg} {xc : XC} {k : Nat} {args : List AVal} {r : AVal × Bool} (h : callIso p xc k args = some r) : ((p.fns k).isSome || (p.prims k).isSome) = true := by
  unfold callIso at h
  split at h
  · rename_i f hf; simp [hf]
  · split at h
    · rename_i hc
      unfold callFn at hc
      split at hc
      · rename_i f hf; simp [hf]
      · cases hc
    · cases h
theorem withP_call {p : AProg} {more : Prims} {op : Nat → Bool} {k : Nat} (ho : op k = false) (hm : more k = none) {xc : XC} {args : List AVal} {v : AVal} {o : Bool} (h : callIso p (X p) k args = some (v, o)) (hv : pureV v = true) : callIso (withP p more op) xc k args = some (v, o) := by
  have hk := callIso_known h
  unfold callIso
  have : (withP p more op).prims k = some fun args => callIso p (X p) k args := by simp only [withP, ho, cond_false, hm, hk, cond_true]
  rw [this]
  simp only [h, hv, cond_true]
theorem withP_more {p : AProg} {more : Prims} {op : Nat → Bool} {k : Nat} {f : List AVal → Option (AVal × Bool)} (ho : op k = false) (hm : more k = some f) {xc : XC} {args : List AVal} {v : AVal} {o : Bool} (h : f args = some (v, o)) (hv : pureV v = true) : callIso (withP p more op) xc k args = some (v, o) := by
  unfold callIso
  have : (withP p more op).prims k = some f := by simp only [withP, ho, cond_false, hm]
  rw [this]
  simp only [h, hv, cond_true]
theorem withP_ok {P : Program} {p : AProg} {more : Prims} {op : Nat → Bool} (hp : ProgOk P p) (hm : ∀ k f, more k = some f → Enters P k ∧ ∀ args v o, f args = some (v, o) → pureV v = true → belowL 0 args = true → IsoCall P k args v o) : ProgOk P (withP p more op) where
  fn := hp.fn
  prim := by
    intro k f hf
    cases ho : op k with
    | true =>
      have : (withP p more op).prims k = none := by simp only [withP, ho, cond_true]
      rw [this] at hf; cases hf
    | false =>
    cases hmk : more k with
    | some g =>
      have : (withP p more op).prims k = some g := by simp only [withP, ho, cond_false, hmk]
      rw [this] at hf
      cases hf
      exact hm k _ hmk
    | none =>
      cases hk : ((p.fns k).isSome || (p.prims k).isSome) with
      | false =>
        have : (withP p more op).prims k = none := by simp only [withP, ho, hmk, hk, cond_false]
        rw [this] at hf; cases hf
      | true =>
        have : (withP p more op).prims k = some fun args => callIso p (X p) k args := by simp only [withP, ho, cond_false, hmk, hk, cond_true]
        rw [this] at hf
        cases hf
        refine ⟨?_, fun args v o h _ hb => callX_ok hp h hb⟩
        simp only [Bool.or_eq_true] at hk
        rcases hk with h | h
        · obtain ⟨af, ha⟩ := Option.isSome_iff_exists.1 h
          exact hp.enters ha
        · obtain ⟨g, hg⟩ := Option.isSome_iff_exists.1 h
          exact (hp.prim k g hg).1
  mixed := hp.mixed
end Go.Z
