/- What the line's functions compute, and the small functions of the checks. -/
import Derived.Test.YtnjngdcbkkonnaaGreatDoorZM
import Derived.Test.YtnjngdcbkkonnaaGreatDoorAbsJ
import Derived.Test.YtnjngdcbkkonnaaGreatDoorAbsL
import Derived.Test.YtnjngdcbkkonnaaGreatDoorAbsH
import Derived.KernelRfl
set_option linter.unusedVariables false
set_option linter.unusedSimpArgs false
set_option maxRecDepth 100000
namespace Go.Z
open Go Go.Abs
theorem zr {α:Type} {l:List α} {i:Nat} {x:α} (hx:l[i]?=some x):l.drop i=x::l.drop (i + 1):=by
 obtain ⟨h1,h2⟩:=List.getElem?_eq_some_iff.1 hx
 rw [List.drop_eq_getElem_cons h1,h2]
theorem jo {i:Nat} {n:Nat} (h:i < n) (hn:n≤9223372036854775807):qg .i64 ((i:Int) + 1)=((i + 1:Nat):Int):=by
 rw [jy (by omega) (by omega)]; rfl
def ji (n lo hi:Int):Int:=if n < lo then 3 else if hi < n then 3 else 0
def kn (b:Bool) (e:Int):Int:=if b then e else 0
def j7:List Int→Int
 | []=>0
 | x::l=>if x=0 then j7 l else x
structure qu2 where
 serial:List UInt8
 values:Option (List Int)
def qvc (u:qu2):AVal:=.agg [.str u.serial,sl 1 qm u.values]
@[go_sem] theorem jm7 {u:qu2}:(qvc u).flat=[.str u.serial,sl 1 qm u.values]:=rfl
theorem q1i {n:Nat} (u:qu2):below n (qvc u)=true:=by simp only [qvc,go_sem]
attribute [go_sem] q1i
def acc {α:Type} (z:Nat) (f:α→AVal) (l:List α):AVal:=match l with
 | []=>.list true 0 []
 | a::l=>.list false z ((a::l).map f)
def zh {α:Type} (l:List α):Bool:=!l.isEmpty
def qi {α:Type} (l:List α):Option (List α):=match l with
 | []=>none
 | a::l=>some (a::l)
@[go_sem] theorem jyw {α:Type} {z:Nat} {f:α→AVal}:acc z f []=.list true 0 []:=rfl
@[go_sem] theorem jw0 {α:Type}:zh (α:=α) []=false:=rfl
theorem qbq {α:Type} (l:List α) (x:α):zh (l++[x])=true:=by cases l <;> rfl
@[go_sem] theorem ji4 {n:Nat}:yy n []=true:=rfl
@[go_sem] theorem jes {n t:Nat} {v:AVal} {o:Bool} {e:Env}:yy n ((t,v,o)::e)=(below n v && yy n e):=rfl
@[go_sem] theorem jkh {h0:Nat} {al:Option (List Nat)} {h:qk} {u:qu2}:qa2 h0 al true 2 h (some (.vptr (qvc u)))=some ⟨.agg [.str u.serial,sl 1 qm u.values],false,none,h⟩:=rfl
def qno (i:Nat) (x:Int):Bool:=decide (65≤x∧x≤90) || decide (97≤x∧x≤122) || (decide (i ≠ 0) && (decide (48≤x∧x≤57) || decide (x=95)))
theorem kinds (x:Int):x≤47∨(48≤x∧x≤57)∨(58≤x∧x≤64)∨(65≤x∧x≤90)∨(91≤x∧x≤94)∨x=95∨x=96∨(97≤x∧x≤122)∨123≤x:=by omega
def qip (i:Nat):List UInt8→Bool
 | []=>true
 | c::s=>qno i c.toNat && qip (i + 1) s
def qo9 (s:List UInt8):Bool:=decide (s ≠ []) && decide (s.length≤24) && qip 0 s
@[go_sem] theorem jbn {v:AVal}:z6 0 v []=[]:=rfl
@[go_sem] theorem q80 {h:qk} {u:qu2}:qey false 0 1 h (some (.vptr (qvc u)))=some ⟨.vptr (.str u.serial),false,none,h⟩:=rfl
@[go_sem] theorem jzt {n:Nat} {v:AVal} {h:qk}:z6 n v h=bif Nat.ble h.length n then h else bif below n v && ju n (h.take n) then h.take n else h:=rfl
@[go_sem] theorem je0 {n:Nat}:ju n []=true:=rfl
@[go_sem] theorem jc3 {n:Nat} {b:ABox} {h:qk}:ju n (b::h)=(kh n b && ju n h):=rfl
@[go_sem] theorem jeq {n:Nat} {cs:List (AVal × Bool)}:kh n (.cells cs)=qbp n cs:=rfl
@[go_sem] theorem jdp {n:Nat}:qbp n []=true:=rfl
@[go_sem] theorem jbs {n:Nat} {v:AVal} {o:Bool} {cs:List (AVal × Bool)}:qbp n ((v,o)::cs)=(below n v && qbp n cs):=rfl
def q5h (h0:Nat) (al:Option (List Nat)) (sz:Nat) (h:qk) (x y:Option AVal):Option ORes:=match x,y with
  | some (.ms b o len),some vy=>bif j6 h0 al b then (match jk h b with
   | some cs=>(match qis sz len vy with
    | some (n,vs)=>(match zz cs o vs with
     | some cs'=>bif Nat.beq vs.length (n * sz) then (match jw h b (.cells cs') with
      | some h'=>val h' (.int .i64 n)
      | none=>none) else none
     | none=>none)
    | none=>none)
   | none=>none) else none
  | _,_=>none
@[go_sem] theorem jz2 {p:jl} {xc:XC} {h0:Nat} {al:Option (List Nat)} {e:Env} {h:qk} {sz:Nat} {x y:qv}:qe p xc h0 al e h (.copy sz x y)=q5h h0 al sz h (qj e x) (qj e y):=rfl
@[go_sem] theorem j0j {k:IntKind} {x:Int}:qku .neg (.int k x)=some (.int k (qg k (0 - x))):=rfl
def jae (ks:List Kd) (neq:Bool) (h:qk) (x y:Option AVal):Option ORes:=match x,y with
  | some (.agg a),some (.agg b)=>bif Nat.beq a.length ks.length && Nat.beq b.length ks.length then (match yn ks a b with
   | some t=>val h (.bool (bif neq then !t else t))
   | none=>none) else none
  | _,_=>none
@[go_sem] theorem jz7 {p:jl} {xc:XC} {h0:Nat} {al:Option (List Nat)} {e:Env} {h:qk} {ks:List Kd} {neq:Bool} {x y:qv}:qe p xc h0 al e h (.eqs ks neq x y)=jae ks neq h (qj e x) (qj e y):=rfl
@[go_sem] theorem j0t {h:qk} {a b c d:Int}:jae [.int,.int] false h (some (.agg [.int .i64 a,.int .i64 b])) (some (.agg [.int .i64 c,.int .i64 d]))=some ⟨.bool (decide (a=c) && decide (b=d)),false,none,h⟩:=by
 show (match yn [.int,.int] [.int .i64 a,.int .i64 b] [.int .i64 c,.int .i64 d] with | some t=>val h (.bool (bif false then !t else t)) | none=>none)=_
 have:yn [.int,.int] [.int .i64 a,.int .i64 b] [.int .i64 c,.int .i64 d]=some (decide (a=c) && decide (b=d)):=by
  have e:∀ x y:Int,(x == y)=decide (x=y):=fun x y=>by by_cases h:x=y <;> simp [h]
  simp only [yn,qak,e,decide_true,cond_true]
  by_cases h1:a=c <;> by_cases h2:b=d <;> simp [h1,h2]
 rw [this]
 rfl
def conv (f g:Nat→Nat):Nat→Nat
 | 0=>f 0 * g 0
 | s + 1=>f 0 * g (s + 1) + conv (fun k=>f (k + 1)) g s
def jmr (b:Bool):AVal:=.bool b
@[go_sem] theorem jjz {h0:Nat} {al:Option (List Nat)} {h:qk} {b:Bool}:qa2 h0 al false 1 h (some (.vptr (jmr b)))=some ⟨.bool b,false,none,h⟩:=rfl
end Go.Z
