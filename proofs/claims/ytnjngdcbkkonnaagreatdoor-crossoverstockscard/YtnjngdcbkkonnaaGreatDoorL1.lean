/-
  What the line's functions compute, and the small functions of the checks: their runs.
-/
import Derived.Test.YtnjngdcbkkonnaaGreatDoorZM
import Derived.Test.YtnjngdcbkkonnaaGreatDoorAbsJ
import Derived.Test.YtnjngdcbkkonnaaGreatDoorAbsL
import Derived.Test.YtnjngdcbkkonnaaGreatDoorAbsH
set_option linter.unusedVariables false
set_option linter.unusedSimpArgs false
set_option maxRecDepth 100000
namespace Go.Z
open Go Go.Abs
theorem ko {α:Type} {l:List α} {i:Nat} {x:α} (hx:l[i]?=some x):l.drop i=x::l.drop (i + 1):=by
 obtain ⟨h1,h2⟩:=List.getElem?_eq_some_iff.1 hx
 rw [List.drop_eq_getElem_cons h1,h2]
theorem jt {i:Nat} {n:Nat} (h:i < n) (hn:n≤9223372036854775807):qm .i64 ((i:Int) + 1)=((i + 1:Nat):Int):=by
 rw [qev (by omega) (by omega)]; rfl
def zh (n lo hi:Int):Int:=if n < lo then 3 else if hi < n then 3 else 0
def kg (b:Bool) (e:Int):Int:=if b then e else 0
def j5:List Int→Int
 | []=>0
 | x::l=>if x=0 then j5 l else x
end Go.Z
/-
 Copies,comparisons,sizes: their runs.
-/
namespace Go.Z
open Go Go.Abs
structure qo5 where
 serial:List UInt8
 values:Option (List Int)
def qoh (u:qo5):AVal:=.agg [.str u.serial,sl 1 qp u.values]
@[go_sem] theorem ja0 {u:qo5}:(qoh u).flat=[.str u.serial,sl 1 qp u.values]:=rfl
theorem qvr {n:Nat} (u:qo5):below n (qoh u)=true:=by simp only [qoh,go_sem]
end Go.Z
/-
 Lists of units; comparisons; sizes; names: their runs.
-/
namespace Go.Z
open Go Go.Abs
attribute [go_sem] qvr
def acc {α:Type} (z:Nat) (f:α→AVal) (l:List α):AVal:=match l with
 | []=>.list true 0 []
 | a::l=>.list false z ((a::l).map f)
def yu {α:Type} (l:List α):Bool:=!l.isEmpty
def j0 {α:Type} (l:List α):Option (List α):=match l with
 | []=>none
 | a::l=>some (a::l)
@[go_sem] theorem jml {α:Type} {z:Nat} {f:α→AVal}:acc z f []=.list true 0 []:=rfl
@[go_sem] theorem jjq {α:Type}:yu (α:=α) []=false:=rfl
theorem qcs {α:Type} (l:List α) (x:α):yu (l++[x])=true:=by cases l <;> rfl
@[go_sem] theorem q64 {n:Nat}:qal n []=true:=rfl
@[go_sem] theorem q5w {n t:Nat} {v:AVal} {o:Bool} {e:Env}:qal n ((t,v,o)::e)=(below n v && qal n e):=rfl
@[go_sem] theorem q97 {h0:Nat} {al:Option (List Nat)} {h:qn} {u:qo5}:qan h0 al true 2 h (some (.vptr (qoh u)))=some ⟨.agg [.str u.serial,sl 1 qp u.values],false,none,h⟩:=rfl
end Go.Z
/-
 Names: their runs.
-/
namespace Go.Z
open Go Go.Abs
def qkb (i:Nat) (x:Int):Bool:=decide (65≤x∧x≤90) || decide (97≤x∧x≤122) || (decide (i ≠ 0) && (decide (48≤x∧x≤57) || decide (x=95)))
theorem kinds (x:Int):x≤47∨(48≤x∧x≤57)∨(58≤x∧x≤64)∨(65≤x∧x≤90)∨(91≤x∧x≤94)∨x=95∨x=96∨(97≤x∧x≤122)∨123≤x:=by omega
def qfw (i:Nat):List UInt8→Bool
 | []=>true
 | c::s=>qkb i c.toNat && qfw (i + 1) s
def qk0 (s:List UInt8):Bool:=decide (s ≠ []) && decide (s.length≤24) && qfw 0 s
end Go.Z
/-
 The checks of units and masks: their runs.
-/
namespace Go.Z
open Go Go.Abs
@[go_sem] theorem q3a {v:AVal}:qab 0 v []=[]:=rfl
end Go.Z
/-
 The checks of lists of units and of masks: their runs.
-/
namespace Go.Z
open Go Go.Abs
@[go_sem] theorem q1e {h:qn} {u:qo5}:qc4 false 0 1 h (some (.vptr (qoh u)))=some ⟨.vptr (.str u.serial),false,none,h⟩:=rfl
end Go.Z
/-
 Learn: its run.
-/
namespace Go.Z
open Go Go.Abs
@[go_sem] theorem jnf {n:Nat} {v:AVal} {h:qn}:qab n v h=bif Nat.ble h.length n then h else bif below n v && yl n (h.take n) then h.take n else h:=rfl
@[go_sem] theorem q5n {n:Nat}:yl n []=true:=rfl
@[go_sem] theorem q40 {n:Nat} {b:ABox} {h:qn}:yl n (b::h)=(qa4 n b && yl n h):=rfl
@[go_sem] theorem q4r {n:Nat} {cs:List (AVal × Bool)}:qa4 n (.cells cs)=qax n cs:=rfl
@[go_sem] theorem q4o {n:Nat}:qax n []=true:=rfl
@[go_sem] theorem q28 {n:Nat} {v:AVal} {o:Bool} {cs:List (AVal × Bool)}:qax n ((v,o)::cs)=(below n v && qax n cs):=rfl
end Go.Z
/-
 Slices that are written; Narrow,both: their runs.
-/
namespace Go.Z
open Go Go.Abs
def qwt (h0:Nat) (al:Option (List Nat)) (sz:Nat) (h:qn) (x y:Option AVal):Option ORes:=match x,y with
  | some (.ms b o len),some vy=>bif ju h0 al b then (match jq h b with
   | some cs=>(match qfs sz len vy with
    | some (n,vs)=>(match zj cs o vs with
     | some cs'=>bif Nat.beq vs.length (n * sz) then (match jn h b (.cells cs') with
      | some h'=>val h' (.int .i64 n)
      | none=>none) else none
     | none=>none)
    | none=>none)
   | none=>none) else none
  | _,_=>none
@[go_sem] theorem jni {p:jj} {xc:XC} {h0:Nat} {al:Option (List Nat)} {e:Env} {h:qn} {sz:Nat} {x y:qt}:qe p xc h0 al e h (.copy sz x y)=qwt h0 al sz h (qi e x) (qi e y):=rfl
end Go.Z
/-
 Grades: the runs.
-/
namespace Go.Z
open Go Go.Abs
@[go_sem] theorem jnu {k:IntKind} {x:Int}:qg6 .neg (.int k x)=some (.int k (qm k (0 - x))):=rfl
end Go.Z
/-
 Ratios and yields: the runs.
-/
namespace Go.Z
open Go Go.Abs
def qxs (ks:List Kd) (neq:Bool) (h:qn) (x y:Option AVal):Option ORes:=match x,y with
  | some (.agg a),some (.agg b)=>bif Nat.beq a.length ks.length && Nat.beq b.length ks.length then (match zp ks a b with
   | some t=>val h (.bool (bif neq then !t else t))
   | none=>none) else none
  | _,_=>none
@[go_sem] theorem jnz {p:jj} {xc:XC} {h0:Nat} {al:Option (List Nat)} {e:Env} {h:qn} {ks:List Kd} {neq:Bool} {x y:qt}:qe p xc h0 al e h (.eqs ks neq x y)=qxs ks neq h (qi e x) (qi e y):=rfl
@[go_sem] theorem joa {h:qn} {a b c d:Int}:qxs [.int,.int] false h (some (.agg [.int .i64 a,.int .i64 b])) (some (.agg [.int .i64 c,.int .i64 d]))=some ⟨.bool (decide (a=c) && decide (b=d)),false,none,h⟩:=by
 show (match zp [.int,.int] [.int .i64 a,.int .i64 b] [.int .i64 c,.int .i64 d] with | some t=>val h (.bool (bif false then !t else t)) | none=>none)=_
 have:zp [.int,.int] [.int .i64 a,.int .i64 b] [.int .i64 c,.int .i64 d]=some (decide (a=c) && decide (b=d)):=by
  have e:∀ x y:Int,(x == y)=decide (x=y):=fun x y=>by by_cases h:x=y <;> simp [h]
  simp only [zp,kf,e,decide_true,cond_true]
  by_cases h1:a=c <;> by_cases h2:b=d <;> simp [h1,h2]
 rw [this]
 rfl
end Go.Z
/-
 Decisions,both: the runs.
-/
namespace Go.Z
open Go Go.Abs
def ja9 (b:Bool):AVal:=.bool b
@[go_sem] theorem jab {h0:Nat} {al:Option (List Nat)} {h:qn} {b:Bool}:qan h0 al false 1 h (some (.vptr (ja9 b)))=some ⟨.bool b,false,none,h⟩:=rfl
end Go.Z
