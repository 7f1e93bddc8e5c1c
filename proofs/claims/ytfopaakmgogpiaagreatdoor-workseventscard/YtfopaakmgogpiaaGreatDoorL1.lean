/- What the line's functions compute, and the small functions of the checks. -/
import Derived.Test.YtfopaakmgogpiaaGreatDoorZC
import Derived.Test.YtfopaakmgogpiaaGreatDoorAbsH
import Derived.Test.YtfopaakmgogpiaaGreatDoorAbsJ
import Derived.Test.YtfopaakmgogpiaaGreatDoorAbsL
set_option linter.unusedVariables false
set_option linter.unusedSimpArgs false
set_option maxRecDepth 100000
namespace Go.Z
open Go Go.Abs
theorem qbf {α:Type} {l:List α} {i:Nat} {x:α} (hx:l[i]?=some x):l.drop i=x::l.drop (i + 1):=by
 obtain ⟨h1,h2⟩:=List.getElem?_eq_some_iff.1 hx
 rw [List.drop_eq_getElem_cons h1,h2]
theorem jae {i:Nat} {n:Nat} (h:i < n) (hn:n≤9223372036854775807):qe .i64 ((i:Int) + 1)=((i + 1:Nat):Int):=by
 rw [qyz (by omega) (by omega)]; rfl
structure qwj where
 serial:List UInt8
 values:Option (List Int)
def qtw (u:qwj):AVal:=.agg [.str u.serial,sl 1 zw u.values]
@[go_sem] theorem j4u {u:qwj}:(qtw u).flat=[.str u.serial,sl 1 zw u.values]:=rfl
theorem q3u {n:Nat} (u:qwj):below n (qtw u)=true:=by simp only [qtw,go_sem]
attribute [go_sem] q3u
def acc {α:Type} (z:Nat) (f:α→AVal) (l:List α):AVal:=match l with
 | []=>.list true 0 []
 | a::l=>.list false z ((a::l).map f)
def qay {α:Type} (l:List α):Bool:=!l.isEmpty
def jz {α:Type} (l:List α):Option (List α):=match l with
 | []=>none
 | a::l=>some (a::l)
@[go_sem] theorem zg1 {α:Type} {z:Nat} {f:α→AVal}:acc z f []=.list true 0 []:=rfl
@[go_sem] theorem za4 {α:Type}:qay (α:=α) []=false:=rfl
theorem qd7 {α:Type} (l:List α) (x:α):qay (l++[x])=true:=by cases l <;> rfl
@[go_sem] theorem jr7 {n:Nat}:qam n []=true:=rfl
@[go_sem] theorem jl9 {n t:Nat} {v:AVal} {o:Bool} {e:Env}:qam n ((t,v,o)::e)=(below n v && qam n e):=rfl
@[go_sem] theorem jt9 {h0:Nat} {al:Option (List Nat)} {h:qf} {u:qwj}:yr h0 al true 2 h (some (.vptr (qtw u)))=some ⟨.agg [.str u.serial,sl 1 zw u.values],false,none,h⟩:=rfl
def qer (i:Nat) (x:Int):Bool:=decide (65≤x∧x≤90) || decide (97≤x∧x≤122) || (decide (i ≠ 0) && (decide (48≤x∧x≤57) || decide (x=95)))
theorem kinds (x:Int):x≤47∨(48≤x∧x≤57)∨(58≤x∧x≤64)∨(65≤x∧x≤90)∨(91≤x∧x≤94)∨x=95∨x=96∨(97≤x∧x≤122)∨123≤x:=by omega
def qdu (i:Nat):List UInt8→Bool
 | []=>true
 | c::s=>qer i c.toNat && qdu (i + 1) s
def isName (s:List UInt8):Bool:=decide (s ≠ []) && decide (s.length≤24) && qdu 0 s
@[go_sem] theorem jh7 {v:AVal}:jr 0 v []=[]:=rfl
@[go_sem] theorem jeo {h:qf} {u:qwj}:qew false 0 1 h (some (.vptr (qtw u)))=some ⟨.vptr (.str u.serial),false,none,h⟩:=rfl
@[go_sem] theorem zhv {n:Nat} {v:AVal} {h:qf}:jr n v h=bif Nat.ble h.length n then h else bif below n v && zn n (h.take n) then h.take n else h:=rfl
@[go_sem] theorem jlu {n:Nat}:zn n []=true:=rfl
@[go_sem] theorem jkx {n:Nat} {b:ABox} {h:qf}:zn n (b::h)=(qbn n b && zn n h):=rfl
@[go_sem] theorem jlh {n:Nat} {cs:List (AVal × Bool)}:qbn n (.cells cs)=qah n cs:=rfl
@[go_sem] theorem jjv {n:Nat}:qah n []=true:=rfl
@[go_sem] theorem jh6 {n:Nat} {v:AVal} {o:Bool} {cs:List (AVal × Bool)}:qah n ((v,o)::cs)=(below n v && qah n cs):=rfl
def qih (h0:Nat) (al:Option (List Nat)) (sz:Nat) (h:qf) (x y:Option AVal):Option ORes:=match x,y with
  | some (.ms b o len),some vy=>bif j9 h0 al b then (match ju h b with
   | some cs=>(match qg5 sz len vy with
    | some (n,vs)=>(match jq cs o vs with
     | some cs'=>bif Nat.beq vs.length (n * sz) then (match jt h b (.cells cs') with
      | some h'=>val h' (.int .i64 n)
      | none=>none) else none
     | none=>none)
    | none=>none)
   | none=>none) else none
  | _,_=>none
@[go_sem] theorem zhp {p:jw} {xc:XC} {h0:Nat} {al:Option (List Nat)} {e:Env} {h:qf} {sz:Nat} {x y:qq}:qg p xc h0 al e h (.copy sz x y)=qih h0 al sz h (qj e x) (qj e y):=rfl
@[go_sem] theorem zh9 {k:IntKind} {x:Int}:qkn .neg (.int k x)=some (.int k (qe k (0 - x))):=rfl
def q2w (ks:List Kd) (neq:Bool) (h:qf) (x y:Option AVal):Option ORes:=match x,y with
  | some (.agg a),some (.agg b)=>bif Nat.beq a.length ks.length && Nat.beq b.length ks.length then (match z7 ks a b with
   | some t=>val h (.bool (bif neq then !t else t))
   | none=>none) else none
  | _,_=>none
@[go_sem] theorem zh6 {p:jw} {xc:XC} {h0:Nat} {al:Option (List Nat)} {e:Env} {h:qf} {ks:List Kd} {neq:Bool} {x y:qq}:qg p xc h0 al e h (.eqs ks neq x y)=q2w ks neq h (qj e x) (qj e y):=rfl
def jy5 (b:Bool):AVal:=.bool b
@[go_sem] theorem jtc {h0:Nat} {al:Option (List Nat)} {h:qf} {b:Bool}:yr h0 al false 1 h (some (.vptr (jy5 b)))=some ⟨.bool b,false,none,h⟩:=rfl
end Go.Z
