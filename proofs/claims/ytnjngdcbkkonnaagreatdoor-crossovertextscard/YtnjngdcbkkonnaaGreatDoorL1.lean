/- What the line's functions compute, and the small functions of the checks. -/
import Derived.Test.YtnjngdcbkkonnaaGreatDoorZM
import Derived.Test.YtnjngdcbkkonnaaGreatDoorAbsJ
import Derived.Test.YtnjngdcbkkonnaaGreatDoorAbsL
import Derived.Test.YtnjngdcbkkonnaaGreatDoorAbsH
import Derived.KernelRfl
set_option linter.unusedVariables false
set_option linter.unusedSimpArgs false
set_option maxRecDepth 100000
namespace Go.Z
open Go Go.Abs
theorem qcd {α:Type} {l:List α} {i:Nat} {x:α} (hx:l[i]?=some x):l.drop i=x::l.drop (i + 1):=by
 obtain ⟨h1,h2⟩:=List.getElem?_eq_some_iff.1 hx
 rw [List.drop_eq_getElem_cons h1,h2]
theorem z8 {i:Nat} {n:Nat} (h:i < n) (hn:n≤9223372036854775807):qi .i64 ((i:Int) + 1)=((i + 1:Nat):Int):=by
 rw [qg6 (by omega) (by omega)]; rfl
def zn (n lo hi:Int):Int:=if n < lo then 3 else if hi < n then 3 else 0
def kf (b:Bool) (e:Int):Int:=if b then e else 0
def zf:List Int→Int
 | []=>0
 | x::l=>if x=0 then zf l else x
structure qov where
 serial:List UInt8
 values:Option (List Int)
def qn5 (u:qov):AVal:=.agg [.str u.serial,sl 1 jo u.values]
@[go_sem] theorem jfi {u:qov}:(qn5 u).flat=[.str u.serial,sl 1 jo u.values]:=rfl
theorem qvd {n:Nat} (u:qov):below n (qn5 u)=true:=by simp only [qn5,go_sem]
attribute [go_sem] qvd
def acc {α:Type} (z:Nat) (f:α→AVal) (l:List α):AVal:=match l with
 | []=>.list true 0 []
 | a::l=>.list false z ((a::l).map f)
def qah {α:Type} (l:List α):Bool:=!l.isEmpty
def ze {α:Type} (l:List α):Option (List α):=match l with
 | []=>none
 | a::l=>some (a::l)
@[go_sem] theorem jmf {α:Type} {z:Nat} {f:α→AVal}:acc z f []=.list true 0 []:=rfl
@[go_sem] theorem jk5 {α:Type}:qah (α:=α) []=false:=rfl
theorem qgz {α:Type} (l:List α) (x:α):qah (l++[x])=true:=by cases l <;> rfl
@[go_sem] theorem q7m {n:Nat}:qan n []=true:=rfl
@[go_sem] theorem q5x {n t:Nat} {v:AVal} {o:Bool} {e:Env}:qan n ((t,v,o)::e)=(below n v && qan n e):=rfl
@[go_sem] theorem q9n {h0:Nat} {al:Option (List Nat)} {h:qm} {u:qov}:qap h0 al true 2 h (some (.vptr (qn5 u)))=some ⟨.agg [.str u.serial,sl 1 jo u.values],false,none,h⟩:=rfl
def qjp (i:Nat) (x:Int):Bool:=decide (65≤x∧x≤90) || decide (97≤x∧x≤122) || (decide (i ≠ 0) && (decide (48≤x∧x≤57) || decide (x=95)))
theorem kinds (x:Int):x≤47∨(48≤x∧x≤57)∨(58≤x∧x≤64)∨(65≤x∧x≤90)∨(91≤x∧x≤94)∨x=95∨x=96∨(97≤x∧x≤122)∨123≤x:=by omega
def qd7 (i:Nat):List UInt8→Bool
 | []=>true
 | c::s=>qjp i c.toNat && qd7 (i + 1) s
def qin (s:List UInt8):Bool:=decide (s ≠ []) && decide (s.length≤24) && qd7 0 s
@[go_sem] theorem q3u {v:AVal}:zq 0 v []=[]:=rfl
@[go_sem] theorem q22 {h:qm} {u:qov}:qdq false 0 1 h (some (.vptr (qn5 u)))=some ⟨.vptr (.str u.serial),false,none,h⟩:=rfl
@[go_sem] theorem jm1 {n:Nat} {v:AVal} {h:qm}:zq n v h=bif Nat.ble h.length n then h else bif below n v && z7 n (h.take n) then h.take n else h:=rfl
@[go_sem] theorem q53 {n:Nat}:z7 n []=true:=rfl
@[go_sem] theorem q36 {n:Nat} {b:ABox} {h:qm}:z7 n (b::h)=(qbb n b && z7 n h):=rfl
@[go_sem] theorem q32 {n:Nat} {cs:List (AVal × Bool)}:qbb n (.cells cs)=qa4 n cs:=rfl
@[go_sem] theorem q5a {n:Nat}:qa4 n []=true:=rfl
@[go_sem] theorem q3o {n:Nat} {v:AVal} {o:Bool} {cs:List (AVal × Bool)}:qa4 n ((v,o)::cs)=(below n v && qa4 n cs):=rfl
def ja6 (h0:Nat) (al:Option (List Nat)) (sz:Nat) (h:qm) (x y:Option AVal):Option ORes:=match x,y with
  | some (.ms b o len),some vy=>bif jx h0 al b then (match js h b with
   | some cs=>(match qmp sz len vy with
    | some (n,vs)=>(match yt cs o vs with
     | some cs'=>bif Nat.beq vs.length (n * sz) then (match jq h b (.cells cs') with
      | some h'=>val h' (.int .i64 n)
      | none=>none) else none
     | none=>none)
    | none=>none)
   | none=>none) else none
  | _,_=>none
@[go_sem] theorem jm0 {p:jm} {xc:XC} {h0:Nat} {al:Option (List Nat)} {e:Env} {h:qm} {sz:Nat} {x y:qr}:qc p xc h0 al e h (.copy sz x y)=ja6 h0 al sz h (qh e x) (qh e y):=rfl
@[go_sem] theorem jns {k:IntKind} {x:Int}:qhc .neg (.int k x)=some (.int k (qi k (0 - x))):=rfl
def q1d (ks:List Kd) (neq:Bool) (h:qm) (x y:Option AVal):Option ORes:=match x,y with
  | some (.agg a),some (.agg b)=>bif Nat.beq a.length ks.length && Nat.beq b.length ks.length then (match zw ks a b with
   | some t=>val h (.bool (bif neq then !t else t))
   | none=>none) else none
  | _,_=>none
@[go_sem] theorem jnj {p:jm} {xc:XC} {h0:Nat} {al:Option (List Nat)} {e:Env} {h:qm} {ks:List Kd} {neq:Bool} {x y:qr}:qc p xc h0 al e h (.eqs ks neq x y)=q1d ks neq h (qh e x) (qh e y):=rfl
@[go_sem] theorem jn4 {h:qm} {a b c d:Int}:q1d [.int,.int] false h (some (.agg [.int .i64 a,.int .i64 b])) (some (.agg [.int .i64 c,.int .i64 d]))=some ⟨.bool (decide (a=c) && decide (b=d)),false,none,h⟩:=by
 show (match zw [.int,.int] [.int .i64 a,.int .i64 b] [.int .i64 c,.int .i64 d] with | some t=>val h (.bool (bif false then !t else t)) | none=>none)=_
 have:zw [.int,.int] [.int .i64 a,.int .i64 b] [.int .i64 c,.int .i64 d]=some (decide (a=c) && decide (b=d)):=by
  have e:∀ x y:Int,(x == y)=decide (x=y):=fun x y=>by by_cases h:x=y <;> simp [h]
  simp only [zw,ki,e,decide_true,cond_true]
  by_cases h1:a=c <;> by_cases h2:b=d <;> simp [h1,h2]
 rw [this]
 rfl
def conv (f g:Nat→Nat):Nat→Nat
 | 0=>f 0 * g 0
 | s + 1=>f 0 * g (s + 1) + conv (fun k=>f (k + 1)) g s
def jbt (b:Bool):AVal:=.bool b
@[go_sem] theorem q9r {h0:Nat} {al:Option (List Nat)} {h:qm} {b:Bool}:qap h0 al false 1 h (some (.vptr (jbt b)))=some ⟨.bool b,false,none,h⟩:=rfl
end Go.Z
