/-
  Small numbers in lists.
-/
import Derived.Test.YtbkpojiedkhfkaaGreatG0m
import Derived.Test.YtbkpojiedkhfkaaGreatD1
import Derived.Test.YtbkpojiedkhfkaaGreatB3
set_option linter.unusedVariables false
set_option linter.unusedSimpArgs false
set_option linter.unusedSimpArgs false
namespace Go.Z
open Go Go.Abs
def vintk (k : IntKind) (n : Int) : AVal := .int k n
@[go_sem] theorem loadR_vintk {h0 : Nat} {al : Option (List Nat)} {h : Heap} {k : IntKind} {i : Int} : loadR h0 al false 1 h (some (.vptr (vintk k i))) = some ⟨.int k i, false, none, h⟩ := rfl
@[go_sem] theorem below_intks {n z : Nat} {k : IntKind} {l : Option (List Int)} : below n (sl z (vintk k) l) = true := below_sl fun _ => rfl
structure GPair8 where
  a : Int
  b : Int
end Go.Z
/-
  The program with Draw's contract; the contracts of LineLoads' functions in it.
-/
set_option maxRecDepth 100000
set_option linter.unusedSimpArgs false
set_option linter.unusedVariables false
namespace Go.Z
open Go Go.Abs Go.Proofs
noncomputable def drawT : List AVal → Option (AVal × Bool)
  | [.int .i64 a, .int .i64 n] => if n = 0 then some (sl 1 vint none, false) else (f55 a n).map fun r => (sl 1 vint (some r), false)
  | _ => none
noncomputable def moreL : Prims := fun k => bif Nat.beq k 55 then some drawT else none
noncomputable def prL : AProg := withP pr moreL fun k => Nat.beq k 12
theorem drawT_ok {args : List AVal} {v : AVal} {o : Bool} (h : drawT args = some (v, o)) (hb : belowL 0 args = true) : IsoCall Tryz.prog 55 args v o := by
  unfold drawT at h
  split at h
  · rename_i a n
    split at h
    · rename_i hn
      cases h
      subst hn
      exact callX_ok okPr W55z hb
    · simp only [Option.map_eq_some_iff, Prod.mk.injEq] at h
      obtain ⟨r, h1, rfl, rfl⟩ := h
      exact W55 h1
  · cases h
theorem okL : ProgOk Tryz.prog prL := withP_ok okPr (by
  intro k f hf
  simp only [moreL, Bool.cond_eq_ite] at hf
  split at hf
  · next hb =>
    cases hf
    have := Nat.eq_of_beq_eq_true hb
    subst this
    exact ⟨okPr.enters (show pr.fns 55 = some c55 from rfl), fun args v o h _ hb => drawT_ok h hb⟩
  · cases hf)
theorem atL {k : Nat} (hk : (Nat.beq k 55 || Nat.beq k 12) = false) {args : List AVal} {v : AVal} {o : Bool} (h : callIso pr (X pr) k args = some (v, o)) (hv : below 0 v = true) : callIso prL (X prL) k args = some (v, o) := by
  have h2 := Bool.or_eq_false_iff.1 hk
  exact withP_call (op := fun k => Nat.beq k 12) h2.2 (show moreL k = none by unfold moreL; rw [h2.1]; rfl) h hv
noncomputable def E55 (a n : Int) : Option (Option (List Int)) := if n = 0 then some none else (f55 a n).map some
theorem WE55 {a n r} (h : E55 a n = some r) : callIso prL (X prL) 55 [.int .i64 a, .int .i64 n] = some (sl 1 vint r, false) := by
  refine withP_more (f := drawT) rfl rfl ?_ (show below 0 _ = true from by simp only [go_sem, seval])
  unfold E55 at h
  show (if n = 0 then some (sl 1 vint none, false) else (f55 a n).map fun r => (sl 1 vint (some r), false)) = _
  split at h
  · rename_i hn
    rw [if_pos hn]; cases h; rfl
  · rename_i hn
    rw [if_neg hn]
    simp only [Option.map_eq_some_iff] at h
    obtain ⟨l, h1, rfl⟩ := h
    rw [h1]; rfl
theorem M14 {r} (h : E14 = some r) : callIso prL (X prL) 14 [] = some (.bool r, false) := atL rfl (WE14 h) rfl
theorem M77 {o : Option (List Int)} {k r} (h : f77 o k = some r) : callIso prL (X prL) 77 [sl 1 vint o, .int .i64 k] = some (.int .i64 r, false) := atL rfl (W77 h) rfl
theorem M82 {o lo hi r} (h : E82 o lo hi = some r) : callIso prL (X prL) 82 [sl 1 vint o, .int .i64 lo, .int .i64 hi] = some (.int .i64 r, false) := atL rfl (WE82 h) rfl
theorem M62 {o r} (h : E62 o = some r) : callIso prL (X prL) 62 [sl 1 vint o] = some (sl 1 vint r, true) := atL rfl (WE62 h) (by simp only [go_sem, seval])
theorem M74 {o : Option (List Int)} {k r} (h : f74 o k = some r) : callIso prL (X prL) 74 [sl 1 vint o, .int .i64 k] = some (.tup [sl 1 vint r.1, .int .i64 r.2.1, .int .i64 r.2.2], false) := atL rfl (W74 h) (by simp only [go_sem, seval])
theorem M75 {o : Option (List Int)} {k : Int} {s r} (h : f75 o k s = some r) : callIso prL (X prL) 75 [sl 1 vint o, .int .i64 k, sl 1 vint s] = some (.tup [.int .i64 r.1, .int .i64 r.2], false) := atL rfl (W75 h) (by simp only [go_sem, seval])
theorem M76 {o : Option (List Int)} {k r} (h : f76 o k = some r) : callIso prL (X prL) 76 [sl 1 vint o, .int .i64 k] = some (.tup [.int .i64 r.1, .int .i64 r.2], false) := atL rfl (W76 h) (by simp only [go_sem, seval])
end Go.Z
