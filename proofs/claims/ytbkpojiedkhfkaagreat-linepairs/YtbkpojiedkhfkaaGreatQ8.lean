/-
  LinePairs: the program with the contract of the reference's search; the contracts of the law's functions in it.
-/
import Derived.Test.YtbkpojiedkhfkaaGreatQ6
import Derived.Test.YtbkpojiedkhfkaaGreatR5
set_option linter.unusedVariables false
set_option linter.unusedSimpArgs false
set_option maxRecDepth 100000
set_option linter.unusedSimpArgs false
set_option linter.unusedVariables false
namespace Go.Z
open Go Go.Abs Go.Proofs
noncomputable def moreP : Prims := fun k => bif Nat.beq k 123 then some (pairT (f123 10)) else none
noncomputable def prP : AProg := withP pr moreP fun k => Nat.beq k 10 || Nat.beq k 69
theorem okP : ProgOk Tryz.prog prP := withP_ok okPr (by
  intro k f hf
  simp only [moreP, Bool.cond_eq_ite] at hf
  split at hf
  · next hb =>
    cases hf
    have := Nat.eq_of_beq_eq_true hb
    subst this
    refine ⟨okPr.enters (show pr.fns 123 = some c123 from rfl), fun args v o h _ hb => ?_⟩
    obtain ⟨y, r', rfl, h1, rfl, rfl⟩ := pairT_some h
    exact W123 10 h1
  · cases hf)
theorem atP {k : Nat} (hk : (Nat.beq k 123 || (Nat.beq k 10 || Nat.beq k 69)) = false) {args : List AVal} {v : AVal} {o : Bool} (h : callIso pr (X pr) k args = some (v, o)) (hv : below 0 v = true) : callIso prP (X prP) k args = some (v, o) := by
  have h2 := Bool.or_eq_false_iff.1 hk
  exact withP_call (op := fun k => Nat.beq k 10 || Nat.beq k 69) h2.2 (show moreP k = none by unfold moreP; rw [h2.1]; rfl) h hv
theorem mk_bools {xc : XC} {h0 : Nat} {al : Option (List Nat)} {e : Env} {h : Heap} {b n : Nat} {x y : AOpd} (hx : evalO e x = some (.int .i64 (n : Int))) (hy : evalO e y = some (.int .i64 (n : Int))) (hn : n ≤ 1073741824) (hb : b ≤ 4096) :
    stepOp prP xc h0 al e h (.mkslice none 1 b [.bool false] x y) = some ⟨sl 1 vbool (some (List.replicate n false)), true, none, h⟩ := by
  have h1 : Nat.ble n 1073741824 = true := Nat.ble_eq_true_of_le hn
  have h2 : Nat.ble b 4096 = true := Nat.ble_eq_true_of_le hb
  have h3 : Nat.beq n n = true := Nat.beq_refl n
  have hx' : evalO e x = some (.int .i64 (Int.ofNat n)) := hx
  have hy' : evalO e y = some (.int .i64 (Int.ofNat n)) := hy
  show stepPure e h (.mkslice none 1 b [.bool false] x y) = _
  simp only [stepPure, hx', hy', h1, h2, h3]
  show some _ = some _
  simp only [sl, List.map_replicate]
  rfl
noncomputable def f69 (o : Option (List GUnit)) : Option (Option (List GPair) × Int) := if (o.getD []).length ≤ 1073741824 then f123 10 o (some (List.replicate (o.getD []).length false)) none else none
theorem N69 {a0 : Option (List GUnit)} {r} (h : f69 a0 = some r) : callIso prP (X prP) 69 [sl 2 vunit a0] = some (.tup [sl 2 vpair r.1, .int .i64 r.2], false) := by
  unfold f69 at h
  split at h
  · rename_i hn
    have h1 : callIso prP (X prP) 123 [sl 2 vunit a0, sl 1 vbool (some (List.replicate (a0.getD []).length false)), .list true 0 []] = some (.tup [sl 2 vpair r.1, .int .i64 r.2], false) := by
      refine withP_more (f := pairT (f123 10)) rfl rfl ?_ (show below 0 _ = true from by simp only [go_sem, seval])
      rw [show [sl 2 vunit a0, sl 1 vbool (some (List.replicate (a0.getD []).length false)), .list true 0 []] = E3 (a0, some (List.replicate (a0.getD []).length false), none) from rfl, pairT_at, h]
      rfl
    have this : ∃ hh, callFn prP (X prP) 69 [sl 2 vunit a0] [] = some (.tup [sl 2 vpair r.1, .int .i64 r.2], false, hh) := by
      rw [callFn_at (show prP.fns 69 = some c69 from rfl) (by simp)]
      simp only [go_sem, seval, c69]
      rw [mk_bools (n := (a0.getD []).length) rfl rfl hn (by decide)]
      simp only [go_sem, seval, h1]
      exact ⟨_, rfl⟩
    obtain ⟨hh, this⟩ := this
    exact callIso_of rfl this (by first | rfl | simp only [go_sem, seval]) (by first | rfl | simp only [go_sem, seval])
  · cases h
theorem N14 {r} (h : E14 = some r) : callIso prP (X prP) 14 [] = some (.bool r, false) := atP rfl (WE14 h) (by first | rfl | simp only [go_sem, seval])
theorem N15 {a0 : Option (List GUnit)} {a1 : Int} {r} (h : E15 a0 a1 = some r) : callIso prP (X prP) 15 [sl 2 vunit a0, .int .i64 a1] = some (.bool r, false) := atP rfl (WE15 h) (by first | rfl | simp only [go_sem, seval])
theorem N18 {a0 : Option (List GUnit)} {r} (h : E18 a0 = some r) : callIso prP (X prP) 18 [sl 2 vunit a0] = some (sl 2 vunit r, accO (a0.getD [])) := atP rfl (WE18 h) (by first | rfl | simp only [go_sem, seval])
theorem N21 {a0 : Option (List Int)} {r} (h : E21 a0 = some r) : callIso prP (X prP) 21 [sl 1 vint a0] = some (.int .i64 r, false) := atP rfl (WE21 h) (by first | rfl | simp only [go_sem, seval])
theorem N22 {a0 : Option (List GUnit)} {r} (h : E22 a0 = some r) : callIso prP (X prP) 22 [sl 2 vunit a0] = some (.int .i64 r, false) := atP rfl (WE22 h) (by first | rfl | simp only [go_sem, seval])
theorem N24 {a0 : Bool} {a1 : Int} {r} (h : E24 a0 a1 = some r) : callIso prP (X prP) 24 [.bool a0, .int .i64 a1] = some (.int .i64 r, false) := atP rfl (WE24 h) (by first | rfl | simp only [go_sem, seval])
theorem N32 {a0 : GUnit} {r} (h : E32 a0 = some r) : callIso prP (X prP) 32 [.agg [.str a0.serial, sl 1 vint a0.values]] = some (.agg [.str r.serial, sl 1 vint r.values], false) := atP rfl (WE32 h) (by first | rfl | simp only [go_sem, seval])
theorem N40 {a0 : Int} {a1 : Int} {a2 : Int} {a3 : Int} {r} (h : E40 a0 a1 a2 a3 = some r) : callIso prP (X prP) 40 [.int .i64 a0, .int .i64 a1, .int .i64 a2, .int .i64 a3] = some (.bool r, false) := atP rfl (WE40 h) (by first | rfl | simp only [go_sem, seval])
theorem N56 {a0 : Option (List GUnit)} {r} (h : f56 a0 = some r) : callIso prP (X prP) 56 [sl 2 vunit a0] = some (.tup [sl 2 vpair r.1, .int .i64 r.2.1, .int .i64 r.2.2], false) := atP rfl (W56 h) (by first | rfl | simp only [go_sem, seval])
theorem N57 {a0 : Option (List GUnit)} {r} (h : f57 a0 = some r) : callIso prP (X prP) 57 [sl 2 vunit a0] = some (.tup [.int .i64 r.1, .int .i64 r.2], false) := atP rfl (W57 h) (by first | rfl | simp only [go_sem, seval])
theorem N59 {a0 : GUnit} {a1 : GUnit} {r} (h : f59 a0 a1 = some r) : callIso prP (X prP) 59 [.agg [.str a0.serial, sl 1 vint a0.values], .agg [.str a1.serial, sl 1 vint a1.values]] = some (.tup [.int .i64 r.1, .int .i64 r.2], false) := atP rfl (W59 h) (by first | rfl | simp only [go_sem, seval])
theorem N66 {a0 : Option (List GUnit)} {a1 : Option (List GPair)} {r} (h : f66 a0 a1 = some r) : callIso prP (X prP) 66 [sl 2 vunit a0, sl 2 vpair a1] = some (.tup [.int .i64 r.1, .int .i64 r.2], false) := atP rfl (W66 h) (by first | rfl | simp only [go_sem, seval])
theorem N67 {a0 : GUnit} {a1 : GUnit} {r} (h : f67 a0 a1 = some r) : callIso prP (X prP) 67 [.agg [.str a0.serial, sl 1 vint a0.values], .agg [.str a1.serial, sl 1 vint a1.values]] = some (.int .i64 r, false) := atP rfl (W67 h) (by first | rfl | simp only [go_sem, seval])
theorem N68 {a0 : GUnit} {a1 : GUnit} {r} (h : f68 a0 a1 = some r) : callIso prP (X prP) 68 [.agg [.str a0.serial, sl 1 vint a0.values], .agg [.str a1.serial, sl 1 vint a1.values]] = some (.int .i64 r, false) := atP rfl (W68 h) (by first | rfl | simp only [go_sem, seval])
theorem N70 {a0 : Option (List GUnit)} {a1 : Option (List GPair)} {r} (h : f70 a0 a1 = some r) : callIso prP (X prP) 70 [sl 2 vunit a0, sl 2 vpair a1] = some (.int .i64 r, false) := atP rfl (W70 h) (by first | rfl | simp only [go_sem, seval])
theorem N71 {a0 : Option (List GUnit)} {a1 : Option (List GPair)} {r} (h : f71 a0 a1 = some r) : callIso prP (X prP) 71 [sl 2 vunit a0, sl 2 vpair a1] = some (.int .i64 r, false) := atP rfl (W71 h) (by first | rfl | simp only [go_sem, seval])
theorem N72 {a0 : Option (List GUnit)} {r} (h : f72 a0 = some r) : callIso prP (X prP) 72 [sl 2 vunit a0] = some (.int .i64 r, false) := atP rfl (W72 h) (by first | rfl | simp only [go_sem, seval])
theorem N73 {a0 : Option (List GPair)} {a1 : Option (List GPair)} {r} (h : f73 a0 a1 = some r) : callIso prP (X prP) 73 [sl 2 vpair a0, sl 2 vpair a1] = some (.bool r, false) := atP rfl (W73 h) (by first | rfl | simp only [go_sem, seval])
end Go.Z
