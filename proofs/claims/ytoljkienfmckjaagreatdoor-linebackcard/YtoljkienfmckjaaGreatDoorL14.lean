/-
  Grades: the runs.
-/
import Derived.Test.YtoljkienfmckjaaGreatDoorL8
import Derived.Test.YtoljkienfmckjaaGreatDoorAbsH
import Derived.KernelRfl
set_option linter.unusedVariables false
set_option linter.unusedSimpArgs false
set_option maxRecDepth 100000
namespace Go.Z
open Go Go.Abs
@[go_sem] theorem u_neg {k:IntKind} {x:Int}:unOpA .neg (.int k x)=some (.int k (wrapF k (0 - x))):=rfl
theorem firstNZ_zero:∀ {l:List Int},firstNZ l=0→∀ x∈l,x=0
 | y::l,h,x,hx=>by
  simp only [firstNZ] at h
  by_cases hy:y=0
  ·rw [if_pos hy] at h
   cases hx with
   | head=>exact hy
   | tail _ hx=>exact firstNZ_zero h x hx
  ·rw [if_neg hy] at h; exact absurd h hy
theorem checkRange_zero {n lo hi:Int} (h:checkRange n lo hi=0):lo≤n∧n≤hi:=by
 unfold checkRange at h
 by_cases h1:n < lo
 ·rw [if_pos h1] at h; cases h
 ·rw [if_neg h1] at h
  by_cases h2:hi < n
  ·rw [if_pos h2] at h; cases h
  ·omega
theorem checkEach_zero {lo hi:Int}:∀ {l:List Int},checkEach lo hi l=0→∀ x∈l,lo≤x∧x≤hi
 | y::l,h,x,hx=>by
  simp only [checkEach] at h
  by_cases hy:checkRange y lo hi=0
  ·rw [if_pos hy] at h
   cases hx with
   | head=>exact checkRange_zero hy
   | tail _ hx=>exact checkEach_zero h x hx
  ·rw [if_neg hy] at h; cases h
theorem whenE_zero {b:Bool} {e:Int} (he:e ≠ 0) (h:whenE b e=0):b=false:=by
 cases b with
 | false=>rfl
 | true=>exact absurd h he
theorem unitE_at {u:GUnit} (h:unitE u=0):∀ v∈u.values.getD [],-100000≤v∧v≤100000:=by
 unfold unitE at h
 exact checkEach_zero (firstNZ_zero h _ (by simp))
end Go.Z
/-
 Ratios and yields: the runs.
-/
namespace Go.Z
open Go Go.Abs
def eqsR (ks:List Kd) (neq:Bool) (h:Heap) (x y:Option AVal):Option ORes:=match x,y with
  | some (.agg a),some (.agg b)=>bif Nat.beq a.length ks.length && Nat.beq b.length ks.length then (match eqCells ks a b with
   | some t=>val h (.bool (bif neq then !t else t))
   | none=>none) else none
  | _,_=>none
@[go_sem] theorem s_eqs {p:AProg} {xc:XC} {h0:Nat} {al:Option (List Nat)} {e:Env} {h:Heap} {ks:List Kd} {neq:Bool} {x y:AOpd}:stepOp p xc h0 al e h (.eqs ks neq x y)=eqsR ks neq h (evalO e x) (evalO e y):=rfl
@[go_sem] theorem eqs2 {h:Heap} {a b c d:Int}:eqsR [.int,.int] false h (some (.agg [.int .i64 a,.int .i64 b])) (some (.agg [.int .i64 c,.int .i64 d]))=some ⟨.bool (decide (a=c) && decide (b=d)),false,none,h⟩:=by
 show (match eqCells [.int,.int] [.int .i64 a,.int .i64 b] [.int .i64 c,.int .i64 d] with | some t=>val h (.bool (bif false then !t else t)) | none=>none)=_
 have:eqCells [.int,.int] [.int .i64 a,.int .i64 b] [.int .i64 c,.int .i64 d]=some (decide (a=c) && decide (b=d)):=by
  have e:∀ x y:Int,(x == y)=decide (x=y):=fun x y=>by by_cases h:x=y <;> simp [h]
  simp only [eqCells,eqCell,e,decide_true,cond_true]
  by_cases h1:a=c <;> by_cases h2:b=d <;> simp [h1,h2]
 rw [this]
 rfl
end Go.Z
/-
 Binomials: that the numbers of ways are Pascal's,and Vandermonde's sum.
-/
namespace Go.Z
open Go Go.Abs
def conv (f g:Nat→Nat):Nat→Nat
 | 0=>f 0 * g 0
 | s + 1=>f 0 * g (s + 1) + conv (fun k=>f (k + 1)) g s
end Go.Z
/-
 Decisions,both: the runs.
-/
namespace Go.Z
open Go Go.Abs
def vbool (b:Bool):AVal:=.bool b
@[go_sem] theorem loadR_vbool {h0:Nat} {al:Option (List Nat)} {h:Heap} {b:Bool}:loadR h0 al false 1 h (some (.vptr (vbool b)))=some ⟨.bool b,false,none,h⟩:=rfl
@[go_sem] theorem below_bools {n z:Nat} {l:Option (List Bool)}:below n (sl z vbool l)=true:=below_sl fun _=>rfl
end Go.Z
