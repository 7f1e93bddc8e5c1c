/-
  Slices that are written; Narrow, both: their runs.
-/
import Derived.Test.YtbkpojiedkhfkaaGreatL9
set_option linter.unusedVariables false
set_option linter.unusedSimpArgs false
set_option maxRecDepth 100000
set_option linter.unusedSimpArgs false
namespace Go.Z
open Go Go.Abs
def ic (xs : List Int) : List (AVal × Bool) := xs.map fun n => (.int .i64 n, false)
def zc (n : Nat) : List (AVal × Bool) := cellsOf (List.replicate n [AVal.int .i64 0]).flatten
theorem zc_eq (n : Nat) : zc n = ic (List.replicate n 0) := by
  unfold zc ic cellsOf
  induction n with
  | zero => rfl
  | succ n ih => simp only [List.replicate_succ, List.flatten_cons, List.map_append, List.map_cons, ih]; rfl
theorem ic_len (xs : List Int) : (ic xs).length = xs.length := by simp [ic]
theorem ic_at {l : List Int} {i : Nat} {x : Int} (hx : l[i]? = some x) : (((ic l).drop i).take 1).map (·.1) = [.int .i64 x] := by
  obtain ⟨h1, h2⟩ := List.getElem?_eq_some_iff.1 hx
  rw [List.drop_eq_getElem_cons (by rw [ic_len]; exact h1)]
  simp [ic, h2]
theorem ic_set {xs : List Int} {i : Nat} (y : Int) (hi : i < xs.length) : (ic xs).take i ++ [(.int .i64 y, false)] ++ (ic xs).drop (i + 1) = ic (xs.set i y) := by
  unfold ic
  rw [List.set_eq_take_append_cons_drop, if_pos hi, List.map_append, List.map_cons, List.map_take, List.map_drop]
  simp
def copyR (h0 : Nat) (al : Option (List Nat)) (sz : Nat) (h : Heap) (x y : Option AVal) : Option ORes := match x, y with
    | some (.ms b o len), some vy => bif okBox h0 al b then (match boxCells h b with
      | some cs => (match copySrc sz len vy with
        | some (n, vs) => (match storeCellsA cs o vs with
          | some cs' => bif Nat.beq vs.length (n * sz) then (match setBox h b (.cells cs') with
            | some h' => val h' (.int .i64 n)
            | none => none) else none
          | none => none)
        | none => none)
      | none => none) else none
    | _, _ => none
@[go_sem] theorem s_copy {p : AProg} {xc : XC} {h0 : Nat} {al : Option (List Nat)} {e : Env} {h : Heap} {sz : Nat} {x y : AOpd} : stepOp p xc h0 al e h (.copy sz x y) = copyR h0 al sz h (evalO e x) (evalO e y) := rfl
theorem copy_full {h0 b n : Nat} {h : Heap} {cs : List (AVal × Bool)} {o : Option (List Int)} (hb : h[b]? = some (.cells cs)) (hc : cs.length = n) (hn : (o.getD []).length = n) :
    copyR h0 none 1 h (some (.ms b 0 n)) (some (sl 1 vint o)) = some ⟨.int .i64 n, false, none, h.set b (.cells (ic (o.getD [])))⟩ := by
  have hs : copySrc 1 n (sl 1 vint o) = some (n, (o.getD []).map vint) := by
    have : ((o.getD []).map vint).flatMap AVal.flat = (o.getD []).map vint := by
      generalize o.getD [] = l
      induction l with
      | nil => rfl
      | cons a l ih => rw [List.map_cons, List.flatMap_cons, ih]; rfl
    cases o with
    | none => simp only [Option.getD_none, List.length_nil] at hn; subst hn; rfl
    | some l =>
      simp only [Option.getD_some] at hn this
      simp only [sl, copySrc, Option.getD_some, List.length_map, hn, Nat.min_self]
      rw [List.take_of_length_le (by simp [hn]), this]
      rfl
  have hl : b < h.length := (List.getElem?_eq_some_iff.1 hb).1
  have hall : ((o.getD []).map vint).all isScalarCell = true := by
    rw [List.all_eq_true]; intro x hx; obtain ⟨a, _, rfl⟩ := List.mem_map.1 hx; rfl
  have hst : storeCellsA cs 0 ((o.getD []).map vint) = some (ic (o.getD [])) := by
    simp only [storeCellsA, List.length_map, Nat.zero_add, hn, hc, hall, Bool.and_true, nat_ble, Nat.le_refl, decide_true, cond_true, List.take_zero, List.nil_append]
    rw [List.drop_eq_nil_of_le (by omega), List.append_nil]
    simp only [ic, List.map_map]; rfl
  simp only [copyR, okBox_any, cond_true, boxCells_eq, hb, cellsC_some, hs, hst, List.length_map, hn, Nat.mul_one, nat_beq, decide_true, setBox_eq, hl, setC_true, val]
def mksR (h0 : Nat) (h : Heap) (r sz bytes : Nat) (zero : List AVal) (x y : Option AVal) : Option ORes := match x, y with
    | some (.int .i64 (.ofNat n)), some (.int .i64 (.ofNat c)) =>
      bif Nat.beq n c && Nat.ble n 1073741824 && Nat.ble bytes 4096 && Nat.beq zero.length sz && Nat.blt 0 sz && zero.all isScalarCell then
        (match newBox h0 h r (.cells (cellsOf (List.replicate n zero).flatten)) with
         | some h' => val h' (.ms (h0 + r) 0 n)
         | none => none) else none
    | _, _ => none
@[go_sem] theorem s_mks {p : AProg} {xc : XC} {h0 : Nat} {al : Option (List Nat)} {e : Env} {h : Heap} {r sz bytes : Nat} {zero : List AVal} {x y : AOpd} : stepOp p xc h0 al e h (.mkslice (some r) sz bytes zero x y) = mksR h0 h r sz bytes zero (evalO e x) (evalO e y) := rfl
theorem mks_full {h0 r n : Nat} {h : Heap} (hn : n ≤ 1073741824) : mksR h0 h r 1 8 [.int .i64 0] (some (.int .i64 (n : Int))) (some (.int .i64 (n : Int))) = newR (newBox h0 h r (.cells (zc n))) (.ms (h0 + r) 0 n) := by
  show (bif Nat.beq n n && Nat.ble n 1073741824 && Nat.ble 8 4096 && Nat.beq [AVal.int .i64 0].length 1 && Nat.blt 0 1 && [AVal.int .i64 0].all isScalarCell then _ else _) = _
  have : (Nat.beq n n && Nat.ble n 1073741824 && Nat.ble 8 4096 && Nat.beq [AVal.int .i64 0].length 1 && Nat.blt 0 1 && [AVal.int .i64 0].all isScalarCell) = true := by
    rw [nat_beq, nat_ble]; simp [hn]; decide
  rw [this, cond_true]
  unfold newR zc
  cases newBox h0 h r (.cells (cellsOf (List.replicate n [AVal.int .i64 0]).flatten)) <;> rfl
theorem idx_ms {z b o n i : Nat} {k : IntKind} {h : Heap} (hi : i < n) : idxR z h (some (.ms b o n)) (some (.int k (i : Int))) = some ⟨.ptr b (o + i * z), false, none, h⟩ := by
  simp only [idxR, idx_int, idxI_nat hi, val]
theorem frz_ic {h : Heap} {b : Nat} {xs : List Int} {n : Nat} (hb : h[b]? = some (.cells (ic xs))) (hn : xs.length = n) : freezeV h (.ms b 0 n) = some (.list false 1 (xs.map vint)) := by
  simp only [freezeV, boxCells_eq, hb, cellsC_some, loadCells_eq, ic_len, hn, Nat.zero_add, Nat.le_refl, decide_true, ldC_true, List.drop_zero]
  rw [List.take_of_length_le (by rw [ic_len]; omega)]
  simp only [ic, List.map_map]
  rfl
def nLo (g x : Int) : Int := wrapF .i64 (x + g)
def nHi (g y : Int) : Int := wrapF .i64 (y - g)
def badP (g : Int) (xy : Int × Int) : Bool := decide (nHi g xy.2 < nLo g xy.1)
def narE (m : GMask) (g : Int) : Int := if ((m.least.getD []).zip (m.most.getD [])).any (badP g) then 24 else 0
def narM (m : GMask) (g : Int) : GMask := if ((m.least.getD []).zip (m.most.getD [])).any (badP g) then ⟨none, none⟩ else ⟨nonNil ((m.least.getD []).map (nLo g)), nonNil ((m.most.getD []).map (nHi g))⟩
def narM' (m : GMask) (g : Int) : GMask := if ((m.least.getD []).zip (m.most.getD [])).any (badP g) then ⟨none, none⟩ else ⟨some ((m.least.getD []).map (nLo g)), some ((m.most.getD []).map (nHi g))⟩
abbrev mBox (m : GMask) : ABox := .cells [(sl 1 vint m.least, false), (sl 1 vint m.most, false)]
theorem runL_nar (g : Int) : ∀ (l : List (Int × Int)) (i : Nat) (s : List Int × List Int),
    (l.any (badP g) = false → runL (δ := List Int × List Int) (fun _ s xy => if badP g xy = true then .inr s else .inl (s.1 ++ [nLo g xy.1], s.2 ++ [nHi g xy.2])) i s l = .inl (s.1 ++ l.map (fun xy => nLo g xy.1), s.2 ++ l.map (fun xy => nHi g xy.2))) ∧
    (l.any (badP g) = true → ∃ s', runL (δ := List Int × List Int) (fun _ s xy => if badP g xy = true then .inr s else .inl (s.1 ++ [nLo g xy.1], s.2 ++ [nHi g xy.2])) i s l = .inr s')
  | [], _, s => ⟨fun _ => by simp [runL], fun h => by cases h⟩
  | xy :: l, i, s => by
    simp only [runL, List.any_cons]
    by_cases hb : badP g xy = true
    · simp only [hb, if_true, Bool.true_or]
      exact ⟨fun h => (by cases h), fun _ => ⟨s, rfl⟩⟩
    · have hb' : badP g xy = false := by simpa using hb
      simp only [if_neg hb]
      rw [hb', Bool.false_or]
      have ih := runL_nar g l (i + 1) (s.1 ++ [nLo g xy.1], s.2 ++ [nHi g xy.2])
      refine ⟨fun h => ?_, ih.2⟩
      rw [ih.1 h]
      simp
end Go.Z
