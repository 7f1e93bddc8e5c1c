/-
  Slices that are written; Narrow, both: their runs.
-/
import Derived.Test.YtbkpojiedkhfkaaGreatL9

set_option linter.unusedVariables false
set_option linter.unusedSimpArgs false

set_option maxRecDepth 100000
set_option linter.unusedSimpArgs false
namespace Go.Z
open Go Go.Abs

/-! ### Cells of integers -/
def ic (xs : List Int) : List (AVal × Bool) := xs.map fun n => (.int .i64 n, false)
def zc (n : Nat) : List (AVal × Bool) := cellsOf (List.replicate n [AVal.int .i64 0]).flatten
theorem zc_eq (n : Nat) : zc n = ic (List.replicate n 0) := by
  unfold zc ic cellsOf
  induction n with
  | zero => rfl
  | succ n ih => simp only [List.replicate_succ, List.flatten_cons, List.map_append, List.map_cons, ih]; rfl
theorem ic_len (xs : List Int) : (ic xs).length = xs.length := by simp [ic]
theorem ic_at {l : List Int} {i : Nat} {x : Int} (hx : l[i]? = some x) : (((ic l).drop i).take 1).map (·.1) = [.int .i64 x] := by
  obtain ⟨h1, h2⟩ := List.getElem?_eq_some_iff.1 hx
  rw [List.drop_eq_getElem_cons (by rw [ic_len]; exact h1)]
  simp [ic, h2]
theorem ic_set {xs : List Int} {i : Nat} (y : Int) (hi : i < xs.length) : (ic xs).take i ++ [(.int .i64 y, false)] ++ (ic xs).drop (i + 1) = ic (xs.set i y) := by
  unfold ic
  rw [List.set_eq_take_append_cons_drop, if_pos hi, List.map_append, List.map_cons, List.map_take, List.map_drop]
  simp

def copyR (h0 : Nat) (al : Option (List Nat)) (sz : Nat) (h : Heap) (x y : Option AVal) : Option ORes := match x, y with
    | some (.ms b o len), some vy => bif okBox h0 al b then (match boxCells h b with
      | some cs => (match copySrc sz len vy with
        | some (n, vs) => (match storeCellsA cs o vs with
          | some cs' => bif Nat.beq vs.length (n * sz) then (match setBox h b (.cells cs') with
            | some h' => val h' (.int .i64 n)
            | none => none) else none
          | none => none)
        | none => none)
      | none => none) else none
    | _, _ => none
@[go_sem] theorem s_copy {p : AProg} {xc : XC} {h0 : Nat} {al : Option (List Nat)} {e : Env} {h : Heap} {sz : Nat} {x y : AOpd} : stepOp p xc h0 al e h (.copy sz x y) = copyR h0 al sz h (evalO e x) (evalO e y) := rfl
theorem copy_full {h0 b n : Nat} {h : Heap} {cs : List (AVal × Bool)} {o : Option (List Int)} (hb : h[b]? = some (.cells cs)) (hc : cs.length = n) (hn : (o.getD []).length = n) :
    copyR h0 none 1 h (some (.ms b 0 n)) (some (sl 1 vint o)) = some ⟨.int .i64 n, false, none, h.set b (.cells (ic (o.getD [])))⟩ := by
  have hs : copySrc 1 n (sl 1 vint o) = some (n, (o.getD []).map vint) := by
    have : ((o.getD []).map vint).flatMap AVal.flat = (o.getD []).map vint := by
      generalize o.getD [] = l
      induction l with
      | nil => rfl
      | cons a l ih => rw [List.map_cons, List.flatMap_cons, ih]; rfl
    cases o with
    | none => simp only [Option.getD_none, List.length_nil] at hn; subst hn; rfl
    | some l =>
      simp only [Option.getD_some] at hn this
      simp only [sl, copySrc, Option.getD_some, List.length_map, hn, Nat.min_self]
      rw [List.take_of_length_le (by simp [hn]), this]
      rfl
  have hl : b < h.length := (List.getElem?_eq_some_iff.1 hb).1
  have hall : ((o.getD []).map vint).all isScalarCell = true := by
    rw [List.all_eq_true]; intro x hx; obtain ⟨a, _, rfl⟩ := List.mem_map.1 hx; rfl
  have hst : storeCellsA cs 0 ((o.getD []).map vint) = some (ic (o.getD [])) := by
    simp only [storeCellsA, List.length_map, Nat.zero_add, hn, hc, hall, Bool.and_true, nat_ble, Nat.le_refl, decide_true, cond_true, List.take_zero, List.nil_append]
    rw [List.drop_eq_nil_of_le (by omega), List.append_nil]
    simp only [ic, List.map_map]; rfl
  simp only [copyR, okBox_any, cond_true, boxCells_eq, hb, cellsC_some, hs, hst, List.length_map, hn, Nat.mul_one, nat_beq, decide_true, setBox_eq, hl, setC_true, val]

def mksR (h0 : Nat) (h : Heap) (r sz bytes : Nat) (zero : List AVal) (x y : Option AVal) : Option ORes := match x, y with
    | some (.int .i64 (.ofNat n)), some (.int .i64 (.ofNat c)) =>
      bif Nat.beq n c && Nat.ble n 1073741824 && Nat.ble bytes 4096 && Nat.beq zero.length sz && Nat.blt 0 sz && zero.all isScalarCell then
        (match newBox h0 h r (.cells (cellsOf (List.replicate n zero).flatten)) with
         | some h' => val h' (.ms (h0 + r) 0 n)
         | none => none) else none
    | _, _ => none
@[go_sem] theorem s_mks {p : AProg} {xc : XC} {h0 : Nat} {al : Option (List Nat)} {e : Env} {h : Heap} {r sz bytes : Nat} {zero : List AVal} {x y : AOpd} : stepOp p xc h0 al e h (.mkslice (some r) sz bytes zero x y) = mksR h0 h r sz bytes zero (evalO e x) (evalO e y) := rfl
theorem mks_full {h0 r n : Nat} {h : Heap} (hn : n ≤ 1073741824) : mksR h0 h r 1 8 [.int .i64 0] (some (.int .i64 (n : Int))) (some (.int .i64 (n : Int))) = newR (newBox h0 h r (.cells (zc n))) (.ms (h0 + r) 0 n) := by
  show (bif Nat.beq n n && Nat.ble n 1073741824 && Nat.ble 8 4096 && Nat.beq [AVal.int .i64 0].length 1 && Nat.blt 0 1 && [AVal.int .i64 0].all isScalarCell then _ else _) = _
  have : (Nat.beq n n && Nat.ble n 1073741824 && Nat.ble 8 4096 && Nat.beq [AVal.int .i64 0].length 1 && Nat.blt 0 1 && [AVal.int .i64 0].all isScalarCell) = true := by
    rw [nat_beq, nat_ble]; simp [hn]; decide
  rw [this, cond_true]
  unfold newR zc
  cases newBox h0 h r (.cells (cellsOf (List.replicate n [AVal.int .i64 0]).flatten)) <;> rfl
theorem idx_ms {z b o n i : Nat} {k : IntKind} {h : Heap} (hi : i < n) : idxR z h (some (.ms b o n)) (some (.int k (i : Int))) = some ⟨.ptr b (o + i * z), false, none, h⟩ := by
  simp only [idxR, idx_int, idxI_nat hi, val]
theorem frz_ic {h : Heap} {b : Nat} {xs : List Int} {n : Nat} (hb : h[b]? = some (.cells (ic xs))) (hn : xs.length = n) : freezeV h (.ms b 0 n) = some (.list false 1 (xs.map vint)) := by
  simp only [freezeV, boxCells_eq, hb, cellsC_some, loadCells_eq, ic_len, hn, Nat.zero_add, Nat.le_refl, decide_true, ldC_true, List.drop_zero]
  rw [List.take_of_length_le (by rw [ic_len]; omega)]
  simp only [ic, List.map_map]
  rfl

/-! ### Narrow -/
def nLo (g x : Int) : Int := wrapF .i64 (x + g)
def nHi (g y : Int) : Int := wrapF .i64 (y - g)
def badP (g : Int) (xy : Int × Int) : Bool := decide (nHi g xy.2 < nLo g xy.1)
def narE (m : GMask) (g : Int) : Int := if ((m.least.getD []).zip (m.most.getD [])).any (badP g) then 24 else 0
def narM (m : GMask) (g : Int) : GMask := if ((m.least.getD []).zip (m.most.getD [])).any (badP g) then ⟨none, none⟩ else ⟨nonNil ((m.least.getD []).map (nLo g)), nonNil ((m.most.getD []).map (nHi g))⟩
def narM' (m : GMask) (g : Int) : GMask := if ((m.least.getD []).zip (m.most.getD [])).any (badP g) then ⟨none, none⟩ else ⟨some ((m.least.getD []).map (nLo g)), some ((m.most.getD []).map (nHi g))⟩

abbrev mBox (m : GMask) : ABox := .cells [(sl 1 vint m.least, false), (sl 1 vint m.most, false)]

theorem runL_nar (g : Int) : ∀ (l : List (Int × Int)) (i : Nat) (s : List Int × List Int),
    (l.any (badP g) = false → runL (δ := List Int × List Int) (fun _ s xy => if badP g xy = true then .inr s else .inl (s.1 ++ [nLo g xy.1], s.2 ++ [nHi g xy.2])) i s l = .inl (s.1 ++ l.map (fun xy => nLo g xy.1), s.2 ++ l.map (fun xy => nHi g xy.2))) ∧
    (l.any (badP g) = true → ∃ s', runL (δ := List Int × List Int) (fun _ s xy => if badP g xy = true then .inr s else .inl (s.1 ++ [nLo g xy.1], s.2 ++ [nHi g xy.2])) i s l = .inr s')
  | [], _, s => ⟨fun _ => by simp [runL], fun h => by cases h⟩
  | xy :: l, i, s => by
    simp only [runL, List.any_cons]
    by_cases hb : badP g xy = true
    · simp only [hb, if_true, Bool.true_or]
      exact ⟨fun h => (by cases h), fun _ => ⟨s, rfl⟩⟩
    · have hb' : badP g xy = false := by simpa using hb
      simp only [if_neg hb]
      rw [hb', Bool.false_or]
      have ih := runL_nar g l (i + 1) (s.1 ++ [nLo g xy.1], s.2 ++ [nHi g xy.2])
      refine ⟨fun h => ?_, ih.2⟩
      rw [ih.1 h]
      simp

theorem l27 (m : GMask) (g : Int) (hn : (m.least.getD []).length ≤ 1073741824) (he : (m.least.getD []).length = (m.most.getD []).length) :
    ∃ hh, X pr (.loop c27_0) ⟨[(1, .int .i64 g, false), (2, .ptr 0 0, false), (4, .ptr 1 0, false), (6, .ptr 2 0, false), (7, .int .i64 0, false)], [mBox m, nn, nn]⟩ =
      some (if ((m.least.getD []).zip (m.most.getD [])).any (badP g) = true then (.ret, ⟨[(4, .ptr 1 0, false), (5, .int .i64 24, false)], [mBox m, nn, hh]⟩)
        else (.exit 0, ⟨[(1, .int .i64 g, false), (2, .ptr 0 0, false), (4, .ptr 1 0, false), (6, .ptr 2 0, false), (7, .int .i64 ((m.least.getD []).length : Int), false), (14, .bool false, false)], [mBox m, nn, accBox ((m.least.getD []).map (nLo g), (m.most.getD []).map (nHi g))]⟩)) := by
  have hz : ((m.least.getD []).zip (m.most.getD [])).length = (m.least.getD []).length := by rw [List.length_zip]; omega
  have := X_loop_list (p := pr) (c := c27_0) ((m.least.getD []).zip (m.most.getD [])) (fun i (s : List Int × List Int) => ⟨[(1, .int .i64 g, false), (2, .ptr 0 0, false), (4, .ptr 1 0, false), (6, .ptr 2 0, false), (7, .int .i64 (i : Int), false)], [mBox m, nn, accBox s]⟩)
    (fun _ s xy => if badP g xy = true then .inr s else .inl (s.1 ++ [nLo g xy.1], s.2 ++ [nHi g xy.2]))
    (fun s => (.exit 0, ⟨[(1, .int .i64 g, false), (2, .ptr 0 0, false), (4, .ptr 1 0, false), (6, .ptr 2 0, false), (7, .int .i64 ((m.least.getD []).length : Int), false), (14, .bool false, false)], [mBox m, nn, accBox s]⟩))
    (fun (s : List Int × List Int) => (.ret, ⟨[(4, .ptr 1 0, false), (5, .int .i64 24, false)], [mBox m, nn, accBox s]⟩)) (fun i s => s.1.length = i ∧ s.2.length = i) ([], []) (fun _ h => by cases h) (fun _ h => by cases h) ?_ ?_ ⟨rfl, rfl⟩
  · rw [Int.natCast_zero] at this
    have hr := runL_nar g ((m.least.getD []).zip (m.most.getD [])) 0 ([], [])
    by_cases hb : ((m.least.getD []).zip (m.most.getD [])).any (badP g) = true
    · obtain ⟨s', hs'⟩ := hr.2 hb
      rw [hs'] at this
      exact ⟨_, by rw [if_pos hb]; exact this⟩
    · rw [hr.1 (by simpa using hb)] at this
      refine ⟨nn, ?_⟩
      rw [if_neg hb]
      have h1 : ((m.least.getD []).zip (m.most.getD [])).map (fun xy => nLo g xy.1) = (m.least.getD []).map (nLo g) := by
        rw [show (fun xy : Int × Int => nLo g xy.1) = nLo g ∘ Prod.fst from rfl, ← List.map_map, List.map_fst_zip (by omega)]
      have h2 : ((m.least.getD []).zip (m.most.getD [])).map (fun xy => nHi g xy.2) = (m.most.getD []).map (nHi g) := by
        rw [show (fun xy : Int × Int => nHi g xy.2) = nHi g ∘ Prod.snd from rfl, ← List.map_map, List.map_snd_zip (by omega)]
      rw [h1, h2] at this
      exact this
  · intro s _
    have hlt : ¬ (((m.least.getD []).length : Int) < ((m.least.getD []).length : Int)) := by omega
    simp only [hz]
    simp only [go_sem, c27_0, mBox, hlt, reduceIte, Nat.reduceEqDiff, Nat.reduceAdd, Nat.reduceSub, Nat.reduceLT, Nat.reduceLeDiff, Nat.reduceMul, Int.reduceLT, Int.reduceLE, Int.reduceEq, Int.reduceNe, Int.reduceAdd, Int.reduceSub, Int.reduceNeg, Int.reduceMul]
  · intro i s xy hx hi hs
    have hi' : i < (m.least.getD []).length := by omega
    have hlt : (i : Int) < ((m.least.getD []).length : Int) := by omega
    obtain ⟨x, y⟩ := xy
    obtain ⟨hxa, hxb⟩ : (m.least.getD [])[i]? = some x ∧ (m.most.getD [])[i]? = some y := by
      rw [List.getElem?_zip_eq_some] at hx; exact hx
    have hw := wrap_succ hi' (by omega)
    obtain ⟨s1, s2⟩ := s
    obtain ⟨hs1, hs2⟩ := hs
    simp only at hs1 hs2
    by_cases hb : badP g (x, y) = true
    · refine stepL_out (d := (s1, s2)) (by simp only [if_pos hb]) ?_
      have hb' : wrapF .i64 (y - g) < wrapF .i64 (x + g) := of_decide_eq_true (p := nHi g y < nLo g x) hb
      simp only [go_sem, c27_0, mBox, nn, accBox, hlt, idx_sl hxa, idx_sl hxb, hb', reduceIte, Nat.reduceEqDiff, Nat.reduceAdd, Nat.reduceSub, Nat.reduceLT, Nat.reduceLeDiff, Nat.reduceMul, Int.reduceLT, Int.reduceLE, Int.reduceEq, Int.reduceNe, Int.reduceAdd, Int.reduceSub, Int.reduceNeg, Int.reduceMul]
    · refine stepL_in (s' := (s1 ++ [nLo g x], s2 ++ [nHi g y])) (by simp only [if_neg hb]) ⟨by simp [hs1], by simp [hs2]⟩ ?_ (gc_same (Nat.le_refl _))
      have hb' : ¬ wrapF .i64 (y - g) < wrapF .i64 (x + g) := fun hh => hb (decide_eq_true (p := nHi g y < nLo g x) hh)
      cases s1 with
      | nil =>
        cases s2 with
        | nil =>
          simp only [go_sem, c27_0, mBox, nn, accBox, hlt, idx_sl hxa, idx_sl hxb, hb', hw, acc_cons, accO_cons, nLo, nHi, reduceIte, Nat.reduceEqDiff, Nat.reduceAdd, Nat.reduceSub, Nat.reduceLT, Nat.reduceLeDiff, Nat.reduceMul, Int.reduceLT, Int.reduceLE, Int.reduceEq, Int.reduceNe, Int.reduceAdd, Int.reduceSub, Int.reduceNeg, Int.reduceMul]
          rfl
        | cons b s2 => simp at hs1 hs2; omega
      | cons a s1 =>
        cases s2 with
        | nil => simp at hs1 hs2; omega
        | cons b s2 =>
          have h9 : s1.length ≤ 1073741822 := by simp at hs1; omega
          have h8 : s2.length ≤ 1073741822 := by simp at hs2; omega
          simp only [go_sem, c27_0, mBox, nn, accBox, hlt, idx_sl hxa, idx_sl hxb, hb', hw, List.length_map, h9, h8, List.map_append, acc_cons, accO_cons, nLo, nHi, reduceIte, Nat.reduceEqDiff, Nat.reduceAdd, Nat.reduceSub, Nat.reduceLT, Nat.reduceLeDiff, Nat.reduceMul, Int.reduceLT, Int.reduceLE, Int.reduceEq, Int.reduceNe, Int.reduceAdd, Int.reduceSub, Int.reduceNeg, Int.reduceMul]
          rfl

theorem I27 (m : GMask) (g : Int) (hn : (m.least.getD []).length ≤ 1073741824) (he : (m.least.getD []).length = (m.most.getD []).length) :
    callIso pr (X pr) 27 [.agg [sl 1 vint m.least, sl 1 vint m.most], .int .i64 g] = some (.tup [.agg [sl 1 vint (narM m g).least, sl 1 vint (narM m g).most], .int .i64 (narE m g)], false) := by
  have : ∃ hh, callFn pr (X pr) 27 [.agg [sl 1 vint m.least, sl 1 vint m.most], .int .i64 g] [] = some (.tup [.agg [sl 1 vint (narM m g).least, sl 1 vint (narM m g).most], .int .i64 (narE m g)], false, hh) := by
    rw [callFn_at (show pr.fns 27 = some c27 from rfl) (by simp)]
    obtain ⟨hh, hl⟩ := l27 m g hn he
    by_cases hb : ((m.least.getD []).zip (m.most.getD [])).any (badP g) = true
    · rw [if_pos hb] at hl
      simp only [mBox, nn] at hl
      have h1 : narM m g = ⟨none, none⟩ := if_pos hb
      have h2 : narE m g = 24 := if_pos hb
      rw [h1, h2]
      simp only [go_sem, c27, hl, reduceIte, Nat.reduceEqDiff, Nat.reduceAdd, Nat.reduceSub, Nat.reduceLT, Nat.reduceLeDiff, Nat.reduceMul, Int.reduceLT, Int.reduceLE, Int.reduceEq, Int.reduceNe, Int.reduceAdd, Int.reduceSub, Int.reduceNeg, Int.reduceMul]
      exact ⟨_, rfl⟩
    · rw [if_neg hb] at hl
      simp only [mBox, nn, accBox, acc_sl] at hl
      have h1 : narM m g = ⟨nonNil ((m.least.getD []).map (nLo g)), nonNil ((m.most.getD []).map (nHi g))⟩ := if_neg hb
      have h2 : narE m g = 0 := if_neg hb
      rw [h1, h2]
      simp only [go_sem, c27, hl, reduceIte, Nat.reduceEqDiff, Nat.reduceAdd, Nat.reduceSub, Nat.reduceLT, Nat.reduceLeDiff, Nat.reduceMul, Int.reduceLT, Int.reduceLE, Int.reduceEq, Int.reduceNe, Int.reduceAdd, Int.reduceSub, Int.reduceNeg, Int.reduceMul]
      exact ⟨_, rfl⟩
  obtain ⟨hh, this⟩ := this
  exact callIso_of rfl this (by simp only [go_sem, reduceIte, Nat.reduceEqDiff, Nat.reduceAdd, Nat.reduceSub, Nat.reduceLT, Nat.reduceLeDiff, Nat.reduceMul, Int.reduceLT, Int.reduceLE, Int.reduceEq, Int.reduceNe, Int.reduceAdd, Int.reduceSub, Int.reduceNeg, Int.reduceMul]) (by simp only [go_sem, reduceIte, Nat.reduceEqDiff, Nat.reduceAdd, Nat.reduceSub, Nat.reduceLT, Nat.reduceLeDiff, Nat.reduceMul, Int.reduceLT, Int.reduceLE, Int.reduceEq, Int.reduceNe, Int.reduceAdd, Int.reduceSub, Int.reduceNeg, Int.reduceMul])

end Go.Z
