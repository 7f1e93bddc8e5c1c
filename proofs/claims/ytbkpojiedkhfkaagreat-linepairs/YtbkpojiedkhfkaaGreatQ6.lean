/-
  LinePairs: the reference's search: its run to a depth (the list of what is used is shut before it is handed on).
-/
import Derived.Test.YtbkpojiedkhfkaaGreatR2
import Derived.Test.YtbkpojiedkhfkaaGreatLG
import Derived.Test.YtbkpojiedkhfkaaGreatG0s
set_option linter.unusedVariables false
set_option linter.unusedSimpArgs false
set_option maxRecDepth 100000
set_option linter.unusedSimpArgs false
set_option linter.unusedVariables false
set_option maxHeartbeats 4000000
namespace Go.Z
open Go Go.Abs Go.Proofs
theorem sl_inj {α : Type} {z : Nat} {f : α → AVal} (hf : ∀ a b, f a = f b → a = b) : ∀ {o o' : Option (List α)}, sl z f o = sl z f o' → o = o'
  | none, none, _ => rfl
  | none, some l, h => by simp [sl] at h
  | some l, none, h => by simp [sl] at h
  | some l, some l', h => by
    simp only [sl, AVal.list.injEq, true_and] at h
    have : ∀ (l l' : List α), l.map f = l'.map f → l = l' := by
      intro l
      induction l with
      | nil => intro l' h; cases l' with
        | nil => rfl
        | cons b l' => simp at h
      | cons a l ih => intro l' h; cases l' with
        | nil => simp at h
        | cons b l' =>
          simp only [List.map_cons, List.cons.injEq] at h
          rw [hf a b h.1, ih l' h.2]
    rw [this l l' h]
theorem vint_inj (a b : Int) (h : vint a = vint b) : a = b := by simp only [vint, AVal.int.injEq, true_and] at h; exact h
theorem vbool_inj (a b : Bool) (h : vbool a = vbool b) : a = b := by simp only [vbool, AVal.bool.injEq] at h; exact h
theorem vpair_inj (a b : GPair) (h : vpair a = vpair b) : a = b := by
  simp only [vpair, AVal.agg.injEq, List.cons.injEq, AVal.int.injEq, true_and, and_true] at h
  cases a; cases b; simp_all
theorem vunit_inj (a b : GUnit) (h : vunit a = vunit b) : a = b := by
  simp only [vunit, AVal.agg.injEq, List.cons.injEq, AVal.str.injEq, and_true] at h
  cases a; cases b
  have := sl_inj vint_inj h.2
  simp_all
abbrev Arg3 := Option (List GUnit) × Option (List Bool) × Option (List GPair)
def E3 (x : Arg3) : List AVal := [sl 2 vunit x.1, sl 1 vbool x.2.1, sl 2 vpair x.2.2]
theorem E3_inj {x y : Arg3} (h : E3 x = E3 y) : x = y := by
  simp only [E3, List.cons.injEq, and_true] at h
  obtain ⟨h1, h2, h3⟩ := h
  obtain ⟨a, b, c⟩ := x
  obtain ⟨a', b', c'⟩ := y
  have e1 := sl_inj vunit_inj h1
  have e2 := sl_inj vbool_inj h2
  have e3 := sl_inj vpair_inj h3
  simp only at e1 e2 e3
  rw [e1, e2, e3]
abbrev Rec3 := Option (List GUnit) → Option (List Bool) → Option (List GPair) → Option (Option (List GPair) × Int)
noncomputable def pairT (f : Rec3) : List AVal → Option (AVal × Bool) := fun args => open Classical in
  if h : ∃ x : Arg3, args = E3 x then (f h.choose.1 h.choose.2.1 h.choose.2.2).map fun r => (.tup [sl 2 vpair r.1, .int .i64 r.2], false) else none
theorem pairT_at (f : Rec3) (x : Arg3) : pairT f (E3 x) = (f x.1 x.2.1 x.2.2).map fun r => (.tup [sl 2 vpair r.1, .int .i64 r.2], false) := by
  unfold pairT
  have h : ∃ y : Arg3, E3 x = E3 y := ⟨x, rfl⟩
  rw [dif_pos h]
  have := E3_inj h.choose_spec
  rw [← this]
theorem pairT_some {f : Rec3} {args : List AVal} {v : AVal} {o : Bool} (h : pairT f args = some (v, o)) : ∃ (x : Arg3) (r : Option (List GPair) × Int), args = E3 x ∧ f x.1 x.2.1 x.2.2 = some r ∧ v = .tup [sl 2 vpair r.1, .int .i64 r.2] ∧ o = false := by
  have h0 := h
  unfold pairT at h
  split at h
  · rename_i hh
    obtain ⟨x, hx⟩ := hh
    subst hx
    rw [pairT_at, Option.map_eq_some_iff] at h0
    obtain ⟨r, h1, h2⟩ := h0
    cases h2
    exact ⟨x, r, rfl, h1, rfl, rfl⟩
  · cases h
def sqL : ACode → ACode
  | .seq a _ => a
  | x => x
def sqR : ACode → ACode
  | .seq _ b => b
  | x => x
def bkB : ACode → ACode
  | .block _ b => b
  | x => x
def k123A : ACode := sqL c123.body
def k123B : ACode := sqL (sqR c123.body)
def k123C : ACode := sqL (sqR (sqR c123.body))
def k123D : ACode := sqL (sqR (sqR (sqR c123.body)))
def k123E : ACode := sqL (sqR (sqR (sqR (sqR c123.body))))
def k123F : ACode := sqL (sqR (sqR (sqR (sqR (sqR c123.body)))))
def k123G : ACode := sqL (sqR (sqR (sqR (sqR (sqR (sqR c123.body))))))
def k123H : ACode := sqR (sqR (sqR (sqR (sqR (sqR (sqR c123.body))))))
def k123L : ACode := c123_1
def k123M : ACode := bkB (sqL (sqR k123L))
def g123L : GCode := .seq (.code (sqL k123L)) (.seq (.block 3 (.seq (.code (sqL k123M)) (.seq (.code (sqL (sqR k123M))) (.seq (.code (sqL (sqR (sqR k123M)))) (.shut 12 (.code (sqR (sqR (sqR k123M))))))))) (.code (sqR (sqR k123L))))
def g123 : GCode := .seq (.code k123A) (.seq (.code k123B) (.seq (.code k123C) (.seq (.code k123D) (.seq (.code k123E) (.seq (.code k123F) (.seq (.seq (.code (sqL k123G)) (.block 2 (.loop g123L))) (.code k123H)))))))
theorem g123_erase : c123.body = g123.erase := rfl
noncomputable def s123_0 (ou : Option (List Bool)) (n : Int) (i : Int) : Option (Int ⊕ Int) :=
  cond (decide (i < n)) (obind (idxO (ou.getD []) i) fun v => cond v (some (.inl (wrapF .i64 (i + 1)))) (some (.inr i))) (some (.inr i))
noncomputable def s123_1 (rec : Rec3) (o : Option (List GUnit)) (ou : Option (List Bool)) (op : Option (List GPair)) (a : Int) (s : Option (List GPair) × Int × Int) : Option ((Option (List GPair) × Int × Int) ⊕ (Option (List GPair) × Int × Int)) :=
  cond (decide (s.2.2 < ((o.getD []).length : Int)))
    (obind (idxO (ou.getD []) s.2.2) fun v46 =>
      cond v46 (some (.inl (s.1, s.2.1, wrapF .i64 (s.2.2 + 1))))
        (obind (capB (ou.getD [])) fun e =>
         obind (idxB e.length e a) fun v1 =>
         obind (idxB e.length (e.set a.toNat true) s.2.2) fun v2 =>
         obind (apO (some []) (op.getD [])) fun v61 =>
         obind (apO v61 [⟨a, s.2.2⟩]) fun v66 =>
         obind (rec o (some ((e.set a.toNat true).set s.2.2.toNat true)) v66) fun v67 =>
         cond (decide (s.2.1 < 0)) (some (.inl (v67.1, v67.2, wrapF .i64 (s.2.2 + 1))))
           (cond (decide (v67.2 < s.2.1)) (some (.inl (v67.1, v67.2, wrapF .i64 (s.2.2 + 1)))) (some (.inl (s.1, s.2.1, wrapF .i64 (s.2.2 + 1)))))))
    (some (.inr s))
noncomputable def F123 (rec : Rec3) : Rec3 := fun o ou op =>
  obind (itO (s123_0 ou ((o.getD []).length : Int)) 0) fun a =>
  cond (decide (a = ((o.getD []).length : Int)))
    (obind (f71 o op) fun w => some (op, w))
    (obind (itO (s123_1 rec o ou op a) (none, -1, wrapF .i64 (a + 1))) fun d => some (d.1, d.2.1))
noncomputable def f123 : Nat → Rec3
  | 0 => fun _ _ _ => none
  | n + 1 => F123 (f123 n)
section
variable {q : AProg} {rec : Rec3} (hrec : ∀ {x : Arg3} {r}, rec x.1 x.2.1 x.2.2 = some r → callIso q (X q) 123 (E3 x) = some (.tup [sl 2 vpair r.1, .int .i64 r.2], false))
  (h71 : ∀ {o op r}, f71 o op = some r → callIso q (X q) 71 [sl 2 vunit o, sl 2 vpair op] = some (.int .i64 r, false))
theorem b123_0 (o : Option (List GUnit)) (ou : Option (List Bool)) (op : Option (List GPair)) (i : Int) (r) (h : s123_0 ou ((o.getD []).length : Int) i = some r) :
    stepO q c123_0 (fun i => ⟨[(0, sl 2 vunit o, false), (1, sl 1 vbool ou, false), (2, sl 2 vpair op, false), (8, .int .i64 i, false)], []⟩) (fun i => (.exit 0, ⟨[(0, sl 2 vunit o, false), (1, sl 1 vbool ou, false), (2, sl 2 vpair op, false), (8, .int .i64 i, false), (24, .bool false, false)], []⟩)) i r := by
  unfold s123_0 at h
  rcases cond_split h with ⟨h1, h⟩ | ⟨h1, h⟩
  · obtain ⟨v, hv, h⟩ := obind_some h
    rcases cond_split h with ⟨h2, h⟩ | ⟨h2, h⟩
    · cases h
      exact stepO_in (st' := ⟨[(0, sl 2 vunit o, false), (1, sl 1 vbool ou, false), (2, sl 2 vpair op, false), (8, .int .i64 (wrapF .i64 (i + 1)), false)], []⟩) (by simp only [go_sem, seval, c123_0, h1, idxR_O hv, h2] <;> rfl) (gc_same (Nat.le_refl _))
    · cases h
      exact stepO_out (by simp only [go_sem, seval, c123_0, h1, idxR_O hv, h2] <;> rfl)
  · cases h
    exact stepO_out (by simp only [go_sem, seval, c123_0, h1] <;> rfl)
theorem l123_0 (o : Option (List GUnit)) (ou : Option (List Bool)) (op : Option (List GPair)) {i d : Int} (h : itO (s123_0 ou ((o.getD []).length : Int)) i = some d) :
    X q (.loop c123_0) ⟨[(0, sl 2 vunit o, false), (1, sl 1 vbool ou, false), (2, sl 2 vpair op, false), (8, .int .i64 i, false)], []⟩ = some (.exit 0, ⟨[(0, sl 2 vunit o, false), (1, sl 1 vbool ou, false), (2, sl 2 vpair op, false), (8, .int .i64 d, false), (24, .bool false, false)], []⟩) :=
  X_itO (b123_0 o ou op) (fun d hh => by cases hh) h
def St123 (o : Option (List GUnit)) (ou : Option (List Bool)) (op : Option (List GPair)) (a : Int) (s : Option (List GPair) × Int × Int) : ASt :=
  ⟨[(0, sl 2 vunit o, false), (1, sl 1 vbool ou, false), (2, sl 2 vpair op, false), (8, .int .i64 a, false), (9, sl 2 vpair s.1, false), (10, .int .i64 s.2.1, false), (11, .int .i64 s.2.2, false)], []⟩
def Ex123 (o : Option (List GUnit)) (ou : Option (List Bool)) (op : Option (List GPair)) (a : Int) (s : Option (List GPair) × Int × Int) : AExit × ASt :=
  (.exit 2, ⟨[(0, sl 2 vunit o, false), (1, sl 1 vbool ou, false), (2, sl 2 vpair op, false), (8, .int .i64 a, false), (9, sl 2 vpair s.1, false), (10, .int .i64 s.2.1, false), (11, .int .i64 s.2.2, false), (40, .bool false, false)], []⟩)
include hrec in
theorem b123_1 (o : Option (List GUnit)) (ou : Option (List Bool)) (op : Option (List GPair)) (a : Int) (s : Option (List GPair) × Int × Int) (r) (h : s123_1 rec o ou op a s = some r) :
    stepG q g123L (St123 o ou op a) (Ex123 o ou op a) s r := by
  obtain ⟨best, worst, b⟩ := s
  unfold s123_1 at h
  simp only [] at h
  rcases cond_split h with ⟨h1, h⟩ | ⟨h1, h⟩
  · have r1 : X q (sqL k123L) (St123 o ou op a (best, worst, b)) = some (.normal, ⟨[(0, sl 2 vunit o, false), (1, sl 1 vbool ou, false), (2, sl 2 vpair op, false), (8, .int .i64 a, false), (9, sl 2 vpair best, false), (10, .int .i64 worst, false), (11, .int .i64 b, false), (40, .bool true, false)], []⟩) := by
      simp only [go_sem, seval, St123, k123L, sqL, c123_1, h1] <;> rfl
    obtain ⟨v46, h2, h⟩ := obind_some h
    have r2 : X q (sqL k123M) ⟨[(0, sl 2 vunit o, false), (1, sl 1 vbool ou, false), (2, sl 2 vpair op, false), (8, .int .i64 a, false), (9, sl 2 vpair best, false), (10, .int .i64 worst, false), (11, .int .i64 b, false), (40, .bool true, false)], []⟩ = some (bif v46 then .exit 3 else .normal, ⟨[(0, sl 2 vunit o, false), (1, sl 1 vbool ou, false), (2, sl 2 vpair op, false), (8, .int .i64 a, false), (9, sl 2 vpair best, false), (10, .int .i64 worst, false), (11, .int .i64 b, false), (46, .bool v46, false)], []⟩) := by
      cases v46 <;> simp only [go_sem, seval, k123L, k123M, sqL, sqR, bkB, c123_1, idxR_O h2] <;> rfl
    rcases cond_split h with ⟨h3, h⟩ | ⟨h3, h⟩
    · cases h
      subst h3
      have r3 : X q (sqR (sqR k123L)) ⟨[(0, sl 2 vunit o, false), (1, sl 1 vbool ou, false), (2, sl 2 vpair op, false), (8, .int .i64 a, false), (9, sl 2 vpair best, false), (10, .int .i64 worst, false), (11, .int .i64 b, false), (46, .bool true, false)], []⟩ = some (.normal, St123 o ou op a (best, worst, wrapF .i64 (b + 1))) := by
        simp only [go_sem, seval, St123, k123L, sqR, c123_1] <;> rfl
      exact ⟨_, .seqN rfl (.code r1) (.seqN rfl (.blockE (.seqX rfl (.code r2) (by simp))) (.code r3)), gc_same (Nat.le_refl _)⟩
    · subst h3
      obtain ⟨e, h4, h⟩ := obind_some h
      obtain ⟨v1, h5, h⟩ := obind_some h
      obtain ⟨v2, h6, h⟩ := obind_some h
      obtain ⟨v61, h7, h⟩ := obind_some h
      obtain ⟨v66, h8, h⟩ := obind_some h
      obtain ⟨v67, h9, h⟩ := obind_some h
      have r3 : X q (sqL (sqR k123M)) ⟨[(0, sl 2 vunit o, false), (1, sl 1 vbool ou, false), (2, sl 2 vpair op, false), (8, .int .i64 a, false), (9, sl 2 vpair best, false), (10, .int .i64 worst, false), (11, .int .i64 b, false), (46, .bool false, false)], []⟩ = some (.normal, ⟨[(0, sl 2 vunit o, false), (1, sl 1 vbool ou, false), (2, sl 2 vpair op, false), (8, .int .i64 a, false), (9, sl 2 vpair best, false), (10, .int .i64 worst, false), (11, .int .i64 b, false), (12, .ms 0 0 e.length, false)], [.cells (bcl e)]⟩) := by
        simp only [go_sem, seval, k123L, k123M, sqL, sqR, bkB, c123_1, appB_B h4] <;> rfl
      have r4 : X q (sqL (sqR (sqR k123M))) ⟨[(0, sl 2 vunit o, false), (1, sl 1 vbool ou, false), (2, sl 2 vpair op, false), (8, .int .i64 a, false), (9, sl 2 vpair best, false), (10, .int .i64 worst, false), (11, .int .i64 b, false), (12, .ms 0 0 e.length, false)], [.cells (bcl e)]⟩ = some (.normal, ⟨[(0, sl 2 vunit o, false), (1, sl 1 vbool ou, false), (2, sl 2 vpair op, false), (8, .int .i64 a, false), (9, sl 2 vpair best, false), (10, .int .i64 worst, false), (11, .int .i64 b, false), (12, .ms 0 0 ((e.set a.toNat true).set b.toNat true).length, false)], [.cells (bcl ((e.set a.toNat true).set b.toNat true))]⟩) := by
        rw [List.length_set, List.length_set]
        simp only [go_sem, seval, k123L, k123M, sqL, sqR, bkB, c123_1, idx_msB h5, st_msB h5, idx_msB h6, st_msB h6] <;> rfl
      have r5 := shut_bools (s := 12) (l := (e.set a.toNat true).set b.toNat true) (o := false) (env := [(0, sl 2 vunit o, false), (1, sl 1 vbool ou, false), (2, sl 2 vpair op, false), (8, .int .i64 a, false), (9, sl 2 vpair best, false), (10, .int .i64 worst, false), (11, .int .i64 b, false), (12, .ms 0 0 ((e.set a.toNat true).set b.toNat true).length, false)]) rfl (by simp only [go_sem, seval, List.all_cons, List.all_nil, Bool.or_true, Bool.and_true, Bool.true_or, Bool.and_self] <;> rfl)
      have h10 : callIso q (X q) 123 [sl 2 vunit o, sl 1 vbool (some ((e.set a.toNat true).set b.toNat true)), sl 2 vpair v66] = some (.tup [sl 2 vpair v67.1, .int .i64 v67.2], false) := hrec (x := (o, some ((e.set a.toNat true).set b.toNat true), v66)) h9
      rcases cond_split h with ⟨h11, h⟩ | ⟨h11, h⟩
      · cases h
        have r6 : X q (sqR (sqR (sqR k123M))) ⟨(12, sl 1 vbool (some ((e.set a.toNat true).set b.toNat true)), false) :: [(0, sl 2 vunit o, false), (1, sl 1 vbool ou, false), (2, sl 2 vpair op, false), (8, .int .i64 a, false), (9, sl 2 vpair best, false), (10, .int .i64 worst, false), (11, .int .i64 b, false), (12, .ms 0 0 ((e.set a.toNat true).set b.toNat true).length, false)], []⟩ = some (.normal, ⟨[(0, sl 2 vunit o, false), (1, sl 1 vbool ou, false), (2, sl 2 vpair op, false), (8, .int .i64 a, false), (9, sl 2 vpair v67.1, false), (10, .int .i64 v67.2, false), (11, .int .i64 b, false)], []⟩) := by
          simp only [go_sem, seval, k123L, k123M, sqL, sqR, bkB, c123_1, app_lit_O h7, app_vpair_O h8, h10, h11] <;> rfl
        have r7 : X q (sqR (sqR k123L)) ⟨[(0, sl 2 vunit o, false), (1, sl 1 vbool ou, false), (2, sl 2 vpair op, false), (8, .int .i64 a, false), (9, sl 2 vpair v67.1, false), (10, .int .i64 v67.2, false), (11, .int .i64 b, false)], []⟩ = some (.normal, St123 o ou op a (v67.1, v67.2, wrapF .i64 (b + 1))) := by
          simp only [go_sem, seval, St123, k123L, sqR, c123_1] <;> rfl
        exact ⟨_, .seqN rfl (.code r1) (.seqN rfl (.blockX (.seqN rfl (.code r2) (.seqN rfl (.code r3) (.seqN rfl (.code r4) (.shut r5 (.code r6))))) (by simp)) (.code r7)), gc_same (Nat.le_refl _)⟩
      · rcases cond_split h with ⟨h12, h⟩ | ⟨h12, h⟩
        · cases h
          have r6 : X q (sqR (sqR (sqR k123M))) ⟨(12, sl 1 vbool (some ((e.set a.toNat true).set b.toNat true)), false) :: [(0, sl 2 vunit o, false), (1, sl 1 vbool ou, false), (2, sl 2 vpair op, false), (8, .int .i64 a, false), (9, sl 2 vpair best, false), (10, .int .i64 worst, false), (11, .int .i64 b, false), (12, .ms 0 0 ((e.set a.toNat true).set b.toNat true).length, false)], []⟩ = some (.normal, ⟨[(0, sl 2 vunit o, false), (1, sl 1 vbool ou, false), (2, sl 2 vpair op, false), (8, .int .i64 a, false), (9, sl 2 vpair v67.1, false), (10, .int .i64 v67.2, false), (11, .int .i64 b, false)], []⟩) := by
            simp only [go_sem, seval, k123L, k123M, sqL, sqR, bkB, c123_1, app_lit_O h7, app_vpair_O h8, h10, h11, h12] <;> rfl
          have r7 : X q (sqR (sqR k123L)) ⟨[(0, sl 2 vunit o, false), (1, sl 1 vbool ou, false), (2, sl 2 vpair op, false), (8, .int .i64 a, false), (9, sl 2 vpair v67.1, false), (10, .int .i64 v67.2, false), (11, .int .i64 b, false)], []⟩ = some (.normal, St123 o ou op a (v67.1, v67.2, wrapF .i64 (b + 1))) := by
            simp only [go_sem, seval, St123, k123L, sqR, c123_1] <;> rfl
          exact ⟨_, .seqN rfl (.code r1) (.seqN rfl (.blockX (.seqN rfl (.code r2) (.seqN rfl (.code r3) (.seqN rfl (.code r4) (.shut r5 (.code r6))))) (by simp)) (.code r7)), gc_same (Nat.le_refl _)⟩
        · cases h
          have r6 : X q (sqR (sqR (sqR k123M))) ⟨(12, sl 1 vbool (some ((e.set a.toNat true).set b.toNat true)), false) :: [(0, sl 2 vunit o, false), (1, sl 1 vbool ou, false), (2, sl 2 vpair op, false), (8, .int .i64 a, false), (9, sl 2 vpair best, false), (10, .int .i64 worst, false), (11, .int .i64 b, false), (12, .ms 0 0 ((e.set a.toNat true).set b.toNat true).length, false)], []⟩ = some (.normal, ⟨[(0, sl 2 vunit o, false), (1, sl 1 vbool ou, false), (2, sl 2 vpair op, false), (8, .int .i64 a, false), (9, sl 2 vpair best, false), (10, .int .i64 worst, false), (11, .int .i64 b, false), (13, sl 2 vpair v67.1, false), (14, .int .i64 v67.2, false), (76, .bool false, false)], []⟩) := by
            simp only [go_sem, seval, k123L, k123M, sqL, sqR, bkB, c123_1, app_lit_O h7, app_vpair_O h8, h10, h11, h12] <;> rfl
          have r7 : X q (sqR (sqR k123L)) ⟨[(0, sl 2 vunit o, false), (1, sl 1 vbool ou, false), (2, sl 2 vpair op, false), (8, .int .i64 a, false), (9, sl 2 vpair best, false), (10, .int .i64 worst, false), (11, .int .i64 b, false), (13, sl 2 vpair v67.1, false), (14, .int .i64 v67.2, false), (76, .bool false, false)], []⟩ = some (.normal, St123 o ou op a (best, worst, wrapF .i64 (b + 1))) := by
            simp only [go_sem, seval, St123, k123L, sqR, c123_1] <;> rfl
          exact ⟨_, .seqN rfl (.code r1) (.seqN rfl (.blockX (.seqN rfl (.code r2) (.seqN rfl (.code r3) (.seqN rfl (.code r4) (.shut r5 (.code r6))))) (by simp)) (.code r7)), gc_same (Nat.le_refl _)⟩
  · cases h
    have r1 : X q (sqL k123L) (St123 o ou op a (best, worst, b)) = some (.exit 2, ⟨[(0, sl 2 vunit o, false), (1, sl 1 vbool ou, false), (2, sl 2 vpair op, false), (8, .int .i64 a, false), (9, sl 2 vpair best, false), (10, .int .i64 worst, false), (11, .int .i64 b, false), (40, .bool false, false)], []⟩) := by
      simp only [go_sem, seval, St123, k123L, sqL, c123_1, h1] <;> rfl
    exact .seqX rfl (.code r1) (fun h => by cases h)
include hrec in
theorem l123_1 (o : Option (List GUnit)) (ou : Option (List Bool)) (op : Option (List GPair)) (a : Int) {s d : Option (List GPair) × Int × Int} (h : itO (s123_1 rec o ou op a) s = some d) : GRun q (.loop g123L) (St123 o ou op a s) (.exit 2) (Ex123 o ou op a d).2 :=
  G_itO (Ex := Ex123 o ou op a) (b123_1 hrec o ou op a) (fun d hh => by cases hh) h
include hrec h71 in
theorem run123 {o : Option (List GUnit)} {ou : Option (List Bool)} {op : Option (List GPair)} {r : Option (List GPair) × Int} (h : F123 rec o ou op = some r) :
    ∃ st, GRun q g123 ⟨argEnv 0 (E3 (o, ou, op)), []⟩ .ret st ∧ clearRes st c123.results = [] ∧ resultsOf st c123.results = some [(sl 2 vpair r.1, false), (.int .i64 r.2, false)] := by
  unfold F123 at h
  obtain ⟨a, h1, h⟩ := obind_some h
  have w1 : X q (.loop c123_0) ⟨[(0, sl 2 vunit o, false), (1, sl 1 vbool ou, false), (2, sl 2 vpair op, false), (8, .int .i64 0, false)], []⟩ = some (.exit 0, ⟨[(0, sl 2 vunit o, false), (1, sl 1 vbool ou, false), (2, sl 2 vpair op, false), (8, .int .i64 a, false), (24, .bool false, false)], []⟩) := l123_0 o ou op h1
  have rA : X q k123A ⟨argEnv 0 (E3 (o, ou, op)), []⟩ = some (.normal, ⟨[(0, sl 2 vunit o, false), (1, sl 1 vbool ou, false), (2, sl 2 vpair op, false)], []⟩) := by
    simp only [go_sem, seval, k123A, sqL, c123, E3] <;> rfl
  have rB : X q k123B ⟨[(0, sl 2 vunit o, false), (1, sl 1 vbool ou, false), (2, sl 2 vpair op, false)], []⟩ = some (.normal, ⟨[(0, sl 2 vunit o, false), (1, sl 1 vbool ou, false), (2, sl 2 vpair op, false), (8, .int .i64 0, false)], []⟩) := by
    simp only [go_sem, seval, k123B, sqL, sqR, c123] <;> rfl
  have rC : X q k123C ⟨[(0, sl 2 vunit o, false), (1, sl 1 vbool ou, false), (2, sl 2 vpair op, false), (8, .int .i64 0, false)], []⟩ = some (.normal, ⟨[(0, sl 2 vunit o, false), (1, sl 1 vbool ou, false), (2, sl 2 vpair op, false), (8, .int .i64 a, false), (24, .bool false, false)], []⟩) := by
    simp only [go_sem, seval, k123C, sqL, sqR, c123, w1] <;> rfl
  rcases cond_split h with ⟨h2, h⟩ | ⟨h2, h⟩
  · obtain ⟨w, h3, h⟩ := obind_some h
    cases h
    have h4 := h71 h3
    have rD : X q k123D ⟨[(0, sl 2 vunit o, false), (1, sl 1 vbool ou, false), (2, sl 2 vpair op, false), (8, .int .i64 a, false), (24, .bool false, false)], []⟩ = some (.ret, ⟨[(6, sl 2 vpair op, false), (7, .int .i64 w, false)], []⟩) := by
      simp only [go_sem, seval, k123D, sqL, sqR, c123, h2, h4] <;> rfl
    exact ⟨_, .seqN rfl (.code rA) (.seqN rfl (.code rB) (.seqN rfl (.code rC) (.seqX rfl (.code rD) (by simp)))), rfl, rfl⟩
  · obtain ⟨d, h3, h⟩ := obind_some h
    cases h
    have rD : X q k123D ⟨[(0, sl 2 vunit o, false), (1, sl 1 vbool ou, false), (2, sl 2 vpair op, false), (8, .int .i64 a, false), (24, .bool false, false)], []⟩ = some (.normal, ⟨[(0, sl 2 vunit o, false), (1, sl 1 vbool ou, false), (2, sl 2 vpair op, false), (8, .int .i64 a, false), (30, .bool false, false)], []⟩) := by
      simp only [go_sem, seval, k123D, sqL, sqR, c123, h2] <;> rfl
    have rE : X q k123E ⟨[(0, sl 2 vunit o, false), (1, sl 1 vbool ou, false), (2, sl 2 vpair op, false), (8, .int .i64 a, false), (30, .bool false, false)], []⟩ = some (.normal, ⟨[(0, sl 2 vunit o, false), (1, sl 1 vbool ou, false), (2, sl 2 vpair op, false), (8, .int .i64 a, false), (9, .list true 0 [], false)], []⟩) := by
      simp only [go_sem, seval, k123E, sqL, sqR, c123] <;> rfl
    have rF : X q k123F ⟨[(0, sl 2 vunit o, false), (1, sl 1 vbool ou, false), (2, sl 2 vpair op, false), (8, .int .i64 a, false), (9, .list true 0 [], false)], []⟩ = some (.normal, ⟨[(0, sl 2 vunit o, false), (1, sl 1 vbool ou, false), (2, sl 2 vpair op, false), (8, .int .i64 a, false), (9, .list true 0 [], false), (10, .int .i64 (-1), false)], []⟩) := by
      simp only [go_sem, seval, k123F, sqL, sqR, c123] <;> rfl
    have rG : X q (sqL k123G) ⟨[(0, sl 2 vunit o, false), (1, sl 1 vbool ou, false), (2, sl 2 vpair op, false), (8, .int .i64 a, false), (9, .list true 0 [], false), (10, .int .i64 (-1), false)], []⟩ = some (.normal, St123 o ou op a (none, -1, wrapF .i64 (a + 1))) := by
      simp only [go_sem, seval, k123G, sqL, sqR, c123, St123] <;> rfl
    have rL := l123_1 hrec o ou op a h3
    have rH : X q k123H (Ex123 o ou op a d).2 = some (.ret, ⟨[(6, sl 2 vpair d.1, false), (7, .int .i64 d.2.1, false)], []⟩) := by
      simp only [go_sem, seval, k123H, sqR, c123, Ex123] <;> rfl
    exact ⟨_, .seqN rfl (.code rA) (.seqN rfl (.code rB) (.seqN rfl (.code rC) (.seqN rfl (.code rD) (.seqN rfl (.code rE) (.seqN rfl (.code rF) (.seqN rfl (.seqN rfl (.code rG) (.blockE rL)) (.code rH))))))), rfl, rfl⟩
end
noncomputable def moreN (n : Nat) : Prims := fun k => bif Nat.beq k 123 then some (pairT (f123 n)) else none
noncomputable def prN (n : Nat) : AProg := withP pr (moreN n) fun _ => false
theorem W123 : ∀ (n : Nat) {x : Arg3} {r : Option (List GPair) × Int}, f123 n x.1 x.2.1 x.2.2 = some r → IsoCall Tryz.prog 123 (E3 x) (.tup [sl 2 vpair r.1, .int .i64 r.2]) false
  | 0, _, _, h => by cases h
  | n + 1, x, r, h => by
    have hp : ProgOk Tryz.prog (prN n) := withP_ok okPr (by
      intro k f hf
      simp only [moreN, Bool.cond_eq_ite] at hf
      split at hf
      · next hb =>
        cases hf
        have := Nat.eq_of_beq_eq_true hb
        subst this
        refine ⟨okPr.enters (show pr.fns 123 = some c123 from rfl), fun args v o h _ hb => ?_⟩
        obtain ⟨y, r', rfl, h1, rfl, rfl⟩ := pairT_some h
        exact W123 n h1
      · cases hf)
    obtain ⟨o, ou, op⟩ := x
    obtain ⟨st, hg, hh, hres⟩ := run123 (q := prN n) (rec := f123 n) (fun {x r} h => withP_more (f := pairT (f123 n)) rfl rfl (by rw [pairT_at, h]; rfl) (show below 0 _ = true from by simp only [go_sem, seval])) (fun {o op r} h => withP_call rfl rfl (W71 h) rfl) (show F123 (f123 n) o ou op = some r from h)
    exact callG_ok hp (show (prN n).fns 123 = some c123 from rfl) g123_erase (by simp [c123, E3]) hg (.inr rfl) hres (by
      rw [hh]
      simp only [go_sem, seval] <;> rfl) (show below 0 _ = true from by simp only [go_sem, seval])
end Go.Z
