/- What the line's functions compute, and the small functions of the checks. -/
import Derived.Test.YtnjngdcbkkonnaaGreatDoorZM
import Derived.Test.YtnjngdcbkkonnaaGreatDoorAbsJ
import Derived.Test.YtnjngdcbkkonnaaGreatDoorAbsL
import Derived.Test.YtnjngdcbkkonnaaGreatDoorAbsH
import Derived.KernelRfl
set_option linter.unusedVariables false
set_option linter.unusedSimpArgs false
set_option maxRecDepth 100000
namespace Go.Z
open Go Go.Abs
theorem qab {α:Type} {l:List α} {i:Nat} {x:α} (hx:l[i]?=some x):l.drop i=x::l.drop (i + 1):=by
 obtain ⟨h1,h2⟩:=List.getElem?_eq_some_iff.1 hx
 rw [List.drop_eq_getElem_cons h1,h2]
theorem ze {i:Nat} {n:Nat} (h:i < n) (hn:n≤9223372036854775807):qf .i64 ((i:Int) + 1)=((i + 1:Nat):Int):=by
 rw [za (by omega) (by omega)]; rfl
def jd (n lo hi:Int):Int:=if n < lo then 3 else if hi < n then 3 else 0
def kg (b:Bool) (e:Int):Int:=if b then e else 0
def js:List Int→Int
 | []=>0
 | x::l=>if x=0 then js l else x
structure qrl where
 serial:List UInt8
 values:Option (List Int)
def qsr (u:qrl):AVal:=.agg [.str u.serial,sl 1 qo u.values]
@[go_sem] theorem jir {u:qrl}:(qsr u).flat=[.str u.serial,sl 1 qo u.values]:=rfl
theorem qzm {n:Nat} (u:qrl):below n (qsr u)=true:=by simp only [qsr,go_sem]
attribute [go_sem] qzm
def acc {α:Type} (z:Nat) (f:α→AVal) (l:List α):AVal:=match l with
 | []=>.list true 0 []
 | a::l=>.list false z ((a::l).map f)
def yw {α:Type} (l:List α):Bool:=!l.isEmpty
def qt {α:Type} (l:List α):Option (List α):=match l with
 | []=>none
 | a::l=>some (a::l)
@[go_sem] theorem juk {α:Type} {z:Nat} {f:α→AVal}:acc z f []=.list true 0 []:=rfl
@[go_sem] theorem jti {α:Type}:yw (α:=α) []=false:=rfl
theorem qgh {α:Type} (l:List α) (x:α):yw (l++[x])=true:=by cases l <;> rfl
@[go_sem] theorem jf4 {n:Nat}:y9 n []=true:=rfl
@[go_sem] theorem jb4 {n t:Nat} {v:AVal} {o:Bool} {e:Env}:y9 n ((t,v,o)::e)=(below n v && y9 n e):=rfl
@[go_sem] theorem jgq {h0:Nat} {al:Option (List Nat)} {h:qk} {u:qrl}:qa9 h0 al true 2 h (some (.vptr (qsr u)))=some ⟨.agg [.str u.serial,sl 1 qo u.values],false,none,h⟩:=rfl
def qmi (i:Nat) (x:Int):Bool:=decide (65≤x∧x≤90) || decide (97≤x∧x≤122) || (decide (i ≠ 0) && (decide (48≤x∧x≤57) || decide (x=95)))
theorem kinds (x:Int):x≤47∨(48≤x∧x≤57)∨(58≤x∧x≤64)∨(65≤x∧x≤90)∨(91≤x∧x≤94)∨x=95∨x=96∨(97≤x∧x≤122)∨123≤x:=by omega
def qhr (i:Nat):List UInt8→Bool
 | []=>true
 | c::s=>qmi i c.toNat && qhr (i + 1) s
def qof (s:List UInt8):Bool:=decide (s ≠ []) && decide (s.length≤24) && qhr 0 s
@[go_sem] theorem q9k {v:AVal}:zq 0 v []=[]:=rfl
@[go_sem] theorem q8m {h:qk} {u:qrl}:qe4 false 0 1 h (some (.vptr (qsr u)))=some ⟨.vptr (.str u.serial),false,none,h⟩:=rfl
@[go_sem] theorem juu {n:Nat} {v:AVal} {h:qk}:zq n v h=bif Nat.ble h.length n then h else bif below n v && jt n (h.take n) then h.take n else h:=rfl
@[go_sem] theorem jcb {n:Nat}:jt n []=true:=rfl
@[go_sem] theorem q97 {n:Nat} {b:ABox} {h:qk}:jt n (b::h)=(ko n b && jt n h):=rfl
@[go_sem] theorem jaw {n:Nat} {cs:List (AVal × Bool)}:ko n (.cells cs)=qbs n cs:=rfl
@[go_sem] theorem q94 {n:Nat}:qbs n []=true:=rfl
@[go_sem] theorem q9j {n:Nat} {v:AVal} {o:Bool} {cs:List (AVal × Bool)}:qbs n ((v,o)::cs)=(below n v && qbs n cs):=rfl
def jki (h0:Nat) (al:Option (List Nat)) (sz:Nat) (h:qk) (x y:Option AVal):Option ORes:=match x,y with
  | some (.ms b o len),some vy=>bif j8 h0 al b then (match jq h b with
   | some cs=>(match qox sz len vy with
    | some (n,vs)=>(match yc cs o vs with
     | some cs'=>bif Nat.beq vs.length (n * sz) then (match jz h b (.cells cs') with
      | some h'=>val h' (.int .i64 n)
      | none=>none) else none
     | none=>none)
    | none=>none)
   | none=>none) else none
  | _,_=>none
@[go_sem] theorem ju4 {p:ju} {xc:XC} {h0:Nat} {al:Option (List Nat)} {e:Env} {h:qk} {sz:Nat} {x y:qu}:qg p xc h0 al e h (.copy sz x y)=jki h0 al sz h (ql e x) (ql e y):=rfl
@[go_sem] theorem jve {k:IntKind} {x:Int}:qjg .neg (.int k x)=some (.int k (qf k (0 - x))):=rfl
def q27 (ks:List Kd) (neq:Bool) (h:qk) (x y:Option AVal):Option ORes:=match x,y with
  | some (.agg a),some (.agg b)=>bif Nat.beq a.length ks.length && Nat.beq b.length ks.length then (match yf ks a b with
   | some t=>val h (.bool (bif neq then !t else t))
   | none=>none) else none
  | _,_=>none
@[go_sem] theorem jvf {p:ju} {xc:XC} {h0:Nat} {al:Option (List Nat)} {e:Env} {h:qk} {ks:List Kd} {neq:Bool} {x y:qu}:qg p xc h0 al e h (.eqs ks neq x y)=q27 ks neq h (ql e x) (ql e y):=rfl
@[go_sem] theorem jv3 {h:qk} {a b c d:Int}:q27 [.int,.int] false h (some (.agg [.int .i64 a,.int .i64 b])) (some (.agg [.int .i64 c,.int .i64 d]))=some ⟨.bool (decide (a=c) && decide (b=d)),false,none,h⟩:=by
 show (match yf [.int,.int] [.int .i64 a,.int .i64 b] [.int .i64 c,.int .i64 d] with | some t=>val h (.bool (bif false then !t else t)) | none=>none)=_
 have:yf [.int,.int] [.int .i64 a,.int .i64 b] [.int .i64 c,.int .i64 d]=some (decide (a=c) && decide (b=d)):=by
  have e:∀ x y:Int,(x == y)=decide (x=y):=fun x y=>by by_cases h:x=y <;> simp [h]
  simp only [yf,qam,e,decide_true,cond_true]
  by_cases h1:a=c <;> by_cases h2:b=d <;> simp [h1,h2]
 rw [this]
 rfl
def conv (f g:Nat→Nat):Nat→Nat
 | 0=>f 0 * g 0
 | s + 1=>f 0 * g (s + 1) + conv (fun k=>f (k + 1)) g s
def jl5 (b:Bool):AVal:=.bool b
@[go_sem] theorem jgy {h0:Nat} {al:Option (List Nat)} {h:qk} {b:Bool}:qa9 h0 al false 1 h (some (.vptr (jl5 b)))=some ⟨.bool b,false,none,h⟩:=rfl
end Go.Z
