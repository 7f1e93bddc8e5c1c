/-
  What the line's functions compute, and the small functions of the checks: their runs.
-/
import Derived.Test.YtnjngdcbkkonnaaGreatDoorZM
import Derived.Test.YtnjngdcbkkonnaaGreatDoorAbsJ
import Derived.Test.YtnjngdcbkkonnaaGreatDoorAbsL
import Derived.Test.YtnjngdcbkkonnaaGreatDoorAbsH
import Derived.KernelRfl
set_option linter.unusedVariables false
set_option linter.unusedSimpArgs false
set_option maxRecDepth 100000
namespace Go.Z
open Go Go.Abs
theorem drop_cons {α:Type} {l:List α} {i:Nat} {x:α} (hx:l[i]?=some x):l.drop i=x::l.drop (i + 1):=by
 obtain ⟨h1,h2⟩:=List.getElem?_eq_some_iff.1 hx
 rw [List.drop_eq_getElem_cons h1,h2]
theorem wrap_succ {i:Nat} {n:Nat} (h:i < n) (hn:n≤9223372036854775807):wrapF .i64 ((i:Int) + 1)=((i + 1:Nat):Int):=by
 rw [wrapF_i64 (by omega) (by omega)]; rfl
def checkRange (n lo hi:Int):Int:=if n < lo then 3 else if hi < n then 3 else 0
def whenE (b:Bool) (e:Int):Int:=if b then e else 0
def firstNZ:List Int→Int
 | []=>0
 | x::l=>if x=0 then firstNZ l else x
end Go.Z
/-
 Copies,comparisons,sizes: their runs.
-/
namespace Go.Z
open Go Go.Abs
structure GUnit where
 serial:List UInt8
 values:Option (List Int)
def vunit (u:GUnit):AVal:=.agg [.str u.serial,sl 1 vint u.values]
@[go_sem] theorem flat_vunit {u:GUnit}:(vunit u).flat=[.str u.serial,sl 1 vint u.values]:=rfl
theorem below_vunit {n:Nat} (u:GUnit):below n (vunit u)=true:=by simp only [vunit,go_sem]
end Go.Z
/-
 Lists of units; comparisons; sizes; names: their runs.
-/
namespace Go.Z
open Go Go.Abs
attribute [go_sem] below_vunit
def acc {α:Type} (z:Nat) (f:α→AVal) (l:List α):AVal:=match l with
 | []=>.list true 0 []
 | a::l=>.list false z ((a::l).map f)
def accO {α:Type} (l:List α):Bool:=!l.isEmpty
def nonNil {α:Type} (l:List α):Option (List α):=match l with
 | []=>none
 | a::l=>some (a::l)
@[go_sem] theorem acc_nil {α:Type} {z:Nat} {f:α→AVal}:acc z f []=.list true 0 []:=rfl
@[go_sem] theorem accO_nil {α:Type}:accO (α:=α) []=false:=rfl
theorem accO_snoc {α:Type} (l:List α) (x:α):accO (l++[x])=true:=by cases l <;> rfl
@[go_sem] theorem belowEnv_nil {n:Nat}:belowEnv n []=true:=rfl
@[go_sem] theorem belowEnv_cons {n t:Nat} {v:AVal} {o:Bool} {e:Env}:belowEnv n ((t,v,o)::e)=(below n v && belowEnv n e):=rfl
@[go_sem] theorem loadR_vunit {h0:Nat} {al:Option (List Nat)} {h:Heap} {u:GUnit}:loadR h0 al true 2 h (some (.vptr (vunit u)))=some ⟨.agg [.str u.serial,sl 1 vint u.values],false,none,h⟩:=rfl
end Go.Z
/-
 Names: their runs.
-/
namespace Go.Z
open Go Go.Abs
def nameB (i:Nat) (x:Int):Bool:=decide (65≤x∧x≤90) || decide (97≤x∧x≤122) || (decide (i ≠ 0) && (decide (48≤x∧x≤57) || decide (x=95)))
theorem kinds (x:Int):x≤47∨(48≤x∧x≤57)∨(58≤x∧x≤64)∨(65≤x∧x≤90)∨(91≤x∧x≤94)∨x=95∨x=96∨(97≤x∧x≤122)∨123≤x:=by omega
def nameAll (i:Nat):List UInt8→Bool
 | []=>true
 | c::s=>nameB i c.toNat && nameAll (i + 1) s
def isName (s:List UInt8):Bool:=decide (s ≠ []) && decide (s.length≤24) && nameAll 0 s
end Go.Z
/-
 The checks of units and masks: their runs.
-/
namespace Go.Z
open Go Go.Abs
@[go_sem] theorem afterShared_nil {v:AVal}:afterShared 0 v []=[]:=rfl
end Go.Z
/-
 The checks of lists of units and of masks: their runs.
-/
namespace Go.Z
open Go Go.Abs
@[go_sem] theorem fieldAddr_vunit0 {h:Heap} {u:GUnit}:fieldAddrR false 0 1 h (some (.vptr (vunit u)))=some ⟨.vptr (.str u.serial),false,none,h⟩:=rfl
end Go.Z
/-
 Learn: its run.
-/
namespace Go.Z
open Go Go.Abs
@[go_sem] theorem afterS {n:Nat} {v:AVal} {h:Heap}:afterShared n v h=bif Nat.ble h.length n then h else bif below n v && belowHeap n (h.take n) then h.take n else h:=rfl
@[go_sem] theorem belowHeap_nil {n:Nat}:belowHeap n []=true:=rfl
@[go_sem] theorem belowHeap_cons {n:Nat} {b:ABox} {h:Heap}:belowHeap n (b::h)=(belowBox n b && belowHeap n h):=rfl
@[go_sem] theorem belowBox_cells {n:Nat} {cs:List (AVal × Bool)}:belowBox n (.cells cs)=belowCells n cs:=rfl
@[go_sem] theorem belowCells_nil {n:Nat}:belowCells n []=true:=rfl
@[go_sem] theorem belowCells_cons {n:Nat} {v:AVal} {o:Bool} {cs:List (AVal × Bool)}:belowCells n ((v,o)::cs)=(below n v && belowCells n cs):=rfl
end Go.Z
/-
 Slices that are written; Narrow,both: their runs.
-/
namespace Go.Z
open Go Go.Abs
def copyR (h0:Nat) (al:Option (List Nat)) (sz:Nat) (h:Heap) (x y:Option AVal):Option ORes:=match x,y with
  | some (.ms b o len),some vy=>bif okBox h0 al b then (match boxCells h b with
   | some cs=>(match copySrc sz len vy with
    | some (n,vs)=>(match storeCellsA cs o vs with
     | some cs'=>bif Nat.beq vs.length (n * sz) then (match setBox h b (.cells cs') with
      | some h'=>val h' (.int .i64 n)
      | none=>none) else none
     | none=>none)
    | none=>none)
   | none=>none) else none
  | _,_=>none
@[go_sem] theorem s_copy {p:AProg} {xc:XC} {h0:Nat} {al:Option (List Nat)} {e:Env} {h:Heap} {sz:Nat} {x y:AOpd}:stepOp p xc h0 al e h (.copy sz x y)=copyR h0 al sz h (evalO e x) (evalO e y):=rfl
end Go.Z
/-
 Grades: the runs.
-/
namespace Go.Z
open Go Go.Abs
@[go_sem] theorem u_neg {k:IntKind} {x:Int}:unOpA .neg (.int k x)=some (.int k (wrapF k (0 - x))):=rfl
end Go.Z
/-
 Ratios and yields: the runs.
-/
namespace Go.Z
open Go Go.Abs
def eqsR (ks:List Kd) (neq:Bool) (h:Heap) (x y:Option AVal):Option ORes:=match x,y with
  | some (.agg a),some (.agg b)=>bif Nat.beq a.length ks.length && Nat.beq b.length ks.length then (match eqCells ks a b with
   | some t=>val h (.bool (bif neq then !t else t))
   | none=>none) else none
  | _,_=>none
@[go_sem] theorem s_eqs {p:AProg} {xc:XC} {h0:Nat} {al:Option (List Nat)} {e:Env} {h:Heap} {ks:List Kd} {neq:Bool} {x y:AOpd}:stepOp p xc h0 al e h (.eqs ks neq x y)=eqsR ks neq h (evalO e x) (evalO e y):=rfl
@[go_sem] theorem eqs2 {h:Heap} {a b c d:Int}:eqsR [.int,.int] false h (some (.agg [.int .i64 a,.int .i64 b])) (some (.agg [.int .i64 c,.int .i64 d]))=some ⟨.bool (decide (a=c) && decide (b=d)),false,none,h⟩:=by
 show (match eqCells [.int,.int] [.int .i64 a,.int .i64 b] [.int .i64 c,.int .i64 d] with | some t=>val h (.bool (bif false then !t else t)) | none=>none)=_
 have:eqCells [.int,.int] [.int .i64 a,.int .i64 b] [.int .i64 c,.int .i64 d]=some (decide (a=c) && decide (b=d)):=by
  have e:∀ x y:Int,(x == y)=decide (x=y):=fun x y=>by by_cases h:x=y <;> simp [h]
  simp only [eqCells,eqCell,e,decide_true,cond_true]
  by_cases h1:a=c <;> by_cases h2:b=d <;> simp [h1,h2]
 rw [this]
 rfl
end Go.Z
/-
 Binomials: that the numbers of ways are Pascal's,and Vandermonde's sum.
-/
namespace Go.Z
open Go Go.Abs
def conv (f g:Nat→Nat):Nat→Nat
 | 0=>f 0 * g 0
 | s + 1=>f 0 * g (s + 1) + conv (fun k=>f (k + 1)) g s
end Go.Z
/-
 Decisions,both: the runs.
-/
namespace Go.Z
open Go Go.Abs
def vbool (b:Bool):AVal:=.bool b
@[go_sem] theorem loadR_vbool {h0:Nat} {al:Option (List Nat)} {h:Heap} {b:Bool}:loadR h0 al false 1 h (some (.vptr (vbool b)))=some ⟨.bool b,false,none,h⟩:=rfl
end Go.Z
