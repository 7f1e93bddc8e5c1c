/-
  What the line's functions compute, and the small functions of the checks: their runs.
-/
import Derived.Test.YtnjngdcbkkonnaaGreatDoorZM
import Derived.Test.YtnjngdcbkkonnaaGreatDoorAbsJ
import Derived.Test.YtnjngdcbkkonnaaGreatDoorAbsL
import Derived.Test.YtnjngdcbkkonnaaGreatDoorAbsH
import Derived.KernelRfl
set_option linter.unusedVariables false
set_option linter.unusedSimpArgs false
set_option maxRecDepth 100000
namespace Go.Z
open Go Go.Abs
theorem z6 {α:Type} {l:List α} {i:Nat} {x:α} (hx:l[i]?=some x):l.drop i=x::l.drop (i + 1):=by
 obtain ⟨h1,h2⟩:=List.getElem?_eq_some_iff.1 hx
 rw [List.drop_eq_getElem_cons h1,h2]
theorem jw {i:Nat} {n:Nat} (h:i < n) (hn:n≤9223372036854775807):qg .i64 ((i:Int) + 1)=((i + 1:Nat):Int):=by
 rw [zu (by omega) (by omega)]; rfl
def jq (n lo hi:Int):Int:=if n < lo then 3 else if hi < n then 3 else 0
def yv (b:Bool) (e:Int):Int:=if b then e else 0
def ju:List Int→Int
 | []=>0
 | x::l=>if x=0 then ju l else x
end Go.Z
/-
 Copies,comparisons,sizes: their runs.
-/
namespace Go.Z
open Go Go.Abs
structure qri where
 serial:List UInt8
 values:Option (List Int)
def qqv (u:qri):AVal:=.agg [.str u.serial,sl 1 qu u.values]
@[go_sem] theorem jg6 {u:qri}:(qqv u).flat=[.str u.serial,sl 1 qu u.values]:=rfl
theorem qxw {n:Nat} (u:qri):below n (qqv u)=true:=by simp only [qqv,go_sem]
end Go.Z
/-
 Lists of units; comparisons; sizes; names: their runs.
-/
namespace Go.Z
open Go Go.Abs
attribute [go_sem] qxw
def acc {α:Type} (z:Nat) (f:α→AVal) (l:List α):AVal:=match l with
 | []=>.list true 0 []
 | a::l=>.list false z ((a::l).map f)
def z7 {α:Type} (l:List α):Bool:=!l.isEmpty
def qv {α:Type} (l:List α):Option (List α):=match l with
 | []=>none
 | a::l=>some (a::l)
@[go_sem] theorem jtq {α:Type} {z:Nat} {f:α→AVal}:acc z f []=.list true 0 []:=rfl
@[go_sem] theorem js1 {α:Type}:z7 (α:=α) []=false:=rfl
theorem qc5 {α:Type} (l:List α) (x:α):z7 (l++[x])=true:=by cases l <;> rfl
@[go_sem] theorem jbn {n:Nat}:km n []=true:=rfl
@[go_sem] theorem jae {n t:Nat} {v:AVal} {o:Bool} {e:Env}:km n ((t,v,o)::e)=(below n v && km n e):=rfl
@[go_sem] theorem jey {h0:Nat} {al:Option (List Nat)} {h:ql} {u:qri}:qaz h0 al true 2 h (some (.vptr (qqv u)))=some ⟨.agg [.str u.serial,sl 1 qu u.values],false,none,h⟩:=rfl
end Go.Z
/-
 Names: their runs.
-/
namespace Go.Z
open Go Go.Abs
def qlm (i:Nat) (x:Int):Bool:=decide (65≤x∧x≤90) || decide (97≤x∧x≤122) || (decide (i ≠ 0) && (decide (48≤x∧x≤57) || decide (x=95)))
theorem kinds (x:Int):x≤47∨(48≤x∧x≤57)∨(58≤x∧x≤64)∨(65≤x∧x≤90)∨(91≤x∧x≤94)∨x=95∨x=96∨(97≤x∧x≤122)∨123≤x:=by omega
def qg2 (i:Nat):List UInt8→Bool
 | []=>true
 | c::s=>qlm i c.toNat && qg2 (i + 1) s
def qmw (s:List UInt8):Bool:=decide (s ≠ []) && decide (s.length≤24) && qg2 0 s
end Go.Z
/-
 The checks of units and masks: their runs.
-/
namespace Go.Z
open Go Go.Abs
@[go_sem] theorem q76 {v:AVal}:yc 0 v []=[]:=rfl
end Go.Z
/-
 The checks of lists of units and of masks: their runs.
-/
namespace Go.Z
open Go Go.Abs
@[go_sem] theorem q5c {h:ql} {u:qri}:qeg false 0 1 h (some (.vptr (qqv u)))=some ⟨.vptr (.str u.serial),false,none,h⟩:=rfl
end Go.Z
/-
 Learn: its run.
-/
namespace Go.Z
open Go Go.Abs
@[go_sem] theorem jt9 {n:Nat} {v:AVal} {h:ql}:yc n v h=bif Nat.ble h.length n then h else bif below n v && jz n (h.take n) then h.take n else h:=rfl
@[go_sem] theorem jas {n:Nat}:jz n []=true:=rfl
@[go_sem] theorem q8n {n:Nat} {b:ABox} {h:ql}:jz n (b::h)=(y9 n b && jz n h):=rfl
@[go_sem] theorem q9y {n:Nat} {cs:List (AVal × Bool)}:y9 n (.cells cs)=qbi n cs:=rfl
@[go_sem] theorem q9x {n:Nat}:qbi n []=true:=rfl
@[go_sem] theorem q7t {n:Nat} {v:AVal} {o:Bool} {cs:List (AVal × Bool)}:qbi n ((v,o)::cs)=(below n v && qbi n cs):=rfl
end Go.Z
/-
 Slices that are written; Narrow,both: their runs.
-/
namespace Go.Z
open Go Go.Abs
def jml (h0:Nat) (al:Option (List Nat)) (sz:Nat) (h:ql) (x y:Option AVal):Option ORes:=match x,y with
  | some (.ms b o len),some vy=>bif j9 h0 al b then (match jp h b with
   | some cs=>(match qny sz len vy with
    | some (n,vs)=>(match kn cs o vs with
     | some cs'=>bif Nat.beq vs.length (n * sz) then (match j0 h b (.cells cs') with
      | some h'=>val h' (.int .i64 n)
      | none=>none) else none
     | none=>none)
    | none=>none)
   | none=>none) else none
  | _,_=>none
@[go_sem] theorem jua {p:js} {xc:XC} {h0:Nat} {al:Option (List Nat)} {e:Env} {h:ql} {sz:Nat} {x y:qx}:qh p xc h0 al e h (.copy sz x y)=jml h0 al sz h (qk e x) (qk e y):=rfl
end Go.Z
/-
 Grades: the runs.
-/
namespace Go.Z
open Go Go.Abs
@[go_sem] theorem juz {k:IntKind} {x:Int}:qi4 .neg (.int k x)=some (.int k (qg k (0 - x))):=rfl
end Go.Z
/-
 Ratios and yields: the runs.
-/
namespace Go.Z
open Go Go.Abs
def qvs (ks:List Kd) (neq:Bool) (h:ql) (x y:Option AVal):Option ORes:=match x,y with
  | some (.agg a),some (.agg b)=>bif Nat.beq a.length ks.length && Nat.beq b.length ks.length then (match zy ks a b with
   | some t=>val h (.bool (bif neq then !t else t))
   | none=>none) else none
  | _,_=>none
@[go_sem] theorem jva {p:js} {xc:XC} {h0:Nat} {al:Option (List Nat)} {e:Env} {h:ql} {ks:List Kd} {neq:Bool} {x y:qx}:qh p xc h0 al e h (.eqs ks neq x y)=qvs ks neq h (qk e x) (qk e y):=rfl
@[go_sem] theorem jvh {h:ql} {a b c d:Int}:qvs [.int,.int] false h (some (.agg [.int .i64 a,.int .i64 b])) (some (.agg [.int .i64 c,.int .i64 d]))=some ⟨.bool (decide (a=c) && decide (b=d)),false,none,h⟩:=by
 show (match zy [.int,.int] [.int .i64 a,.int .i64 b] [.int .i64 c,.int .i64 d] with | some t=>val h (.bool (bif false then !t else t)) | none=>none)=_
 have:zy [.int,.int] [.int .i64 a,.int .i64 b] [.int .i64 c,.int .i64 d]=some (decide (a=c) && decide (b=d)):=by
  have e:∀ x y:Int,(x == y)=decide (x=y):=fun x y=>by by_cases h:x=y <;> simp [h]
  simp only [zy,ky,e,decide_true,cond_true]
  by_cases h1:a=c <;> by_cases h2:b=d <;> simp [h1,h2]
 rw [this]
 rfl
end Go.Z
/-
 Binomials: that the numbers of ways are Pascal's,and Vandermonde's sum.
-/
namespace Go.Z
open Go Go.Abs
def conv (f g:Nat→Nat):Nat→Nat
 | 0=>f 0 * g 0
 | s + 1=>f 0 * g (s + 1) + conv (fun k=>f (k + 1)) g s
end Go.Z
/-
 Decisions,both: the runs.
-/
namespace Go.Z
open Go Go.Abs
def jiq (b:Bool):AVal:=.bool b
@[go_sem] theorem je7 {h0:Nat} {al:Option (List Nat)} {h:ql} {b:Bool}:qaz h0 al false 1 h (some (.vptr (jiq b)))=some ⟨.bool b,false,none,h⟩:=rfl
end Go.Z
