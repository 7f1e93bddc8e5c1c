/- What the line's functions compute, and the small functions of the checks. -/
import Derived.Test.YtnjngdcbkkonnaaGreatDoorZM
import Derived.Test.YtnjngdcbkkonnaaGreatDoorAbsJ
import Derived.Test.YtnjngdcbkkonnaaGreatDoorAbsL
import Derived.Test.YtnjngdcbkkonnaaGreatDoorAbsH
import Derived.KernelRfl
set_option linter.unusedVariables false
set_option linter.unusedSimpArgs false
set_option maxRecDepth 100000
namespace Go.Z
open Go Go.Abs
theorem qb2 {α:Type} {l:List α} {i:Nat} {x:α} (hx:l[i]?=some x):l.drop i=x::l.drop (i + 1):=by
 obtain ⟨h1,h2⟩:=List.getElem?_eq_some_iff.1 hx
 rw [List.drop_eq_getElem_cons h1,h2]
theorem zx {i:Nat} {n:Nat} (h:i < n) (hn:n≤9223372036854775807):qk .i64 ((i:Int) + 1)=((i + 1:Nat):Int):=by
 rw [qg6 (by omega) (by omega)]; rfl
def zk (n lo hi:Int):Int:=if n < lo then 3 else if hi < n then 3 else 0
def ke (b:Bool) (e:Int):Int:=if b then e else 0
def zb:List Int→Int
 | []=>0
 | x::l=>if x=0 then zb l else x
structure qnu where
 serial:List UInt8
 values:Option (List Int)
def qnk (u:qnu):AVal:=.agg [.str u.serial,sl 1 jr u.values]
@[go_sem] theorem je7 {u:qnu}:(qnk u).flat=[.str u.serial,sl 1 jr u.values]:=rfl
theorem quq {n:Nat} (u:qnu):below n (qnk u)=true:=by simp only [qnk,go_sem]
attribute [go_sem] quq
def acc {α:Type} (z:Nat) (f:α→AVal) (l:List α):AVal:=match l with
 | []=>.list true 0 []
 | a::l=>.list false z ((a::l).map f)
def qaf {α:Type} (l:List α):Bool:=!l.isEmpty
def j5 {α:Type} (l:List α):Option (List α):=match l with
 | []=>none
 | a::l=>some (a::l)
@[go_sem] theorem jlm {α:Type} {z:Nat} {f:α→AVal}:acc z f []=.list true 0 []:=rfl
@[go_sem] theorem jkc {α:Type}:qaf (α:=α) []=false:=rfl
theorem qgr {α:Type} (l:List α) (x:α):qaf (l++[x])=true:=by cases l <;> rfl
@[go_sem] theorem q5t {n:Nat}:qam n []=true:=rfl
@[go_sem] theorem q44 {n t:Nat} {v:AVal} {o:Bool} {e:Env}:qam n ((t,v,o)::e)=(below n v && qam n e):=rfl
@[go_sem] theorem q8w {h0:Nat} {al:Option (List Nat)} {h:qh} {u:qnu}:qao h0 al true 2 h (some (.vptr (qnk u)))=some ⟨.agg [.str u.serial,sl 1 jr u.values],false,none,h⟩:=rfl
def qgt (i:Nat) (x:Int):Bool:=decide (65≤x∧x≤90) || decide (97≤x∧x≤122) || (decide (i ≠ 0) && (decide (48≤x∧x≤57) || decide (x=95)))
theorem kinds (x:Int):x≤47∨(48≤x∧x≤57)∨(58≤x∧x≤64)∨(65≤x∧x≤90)∨(91≤x∧x≤94)∨x=95∨x=96∨(97≤x∧x≤122)∨123≤x:=by omega
def qca (i:Nat):List UInt8→Bool
 | []=>true
 | c::s=>qgt i c.toNat && qca (i + 1) s
def qip (s:List UInt8):Bool:=decide (s ≠ []) && decide (s.length≤24) && qca 0 s
@[go_sem] theorem q2m {v:AVal}:zm 0 v []=[]:=rfl
@[go_sem] theorem q0u {h:qh} {u:qnu}:qdg false 0 1 h (some (.vptr (qnk u)))=some ⟨.vptr (.str u.serial),false,none,h⟩:=rfl
@[go_sem] theorem jlq {n:Nat} {v:AVal} {h:qh}:zm n v h=bif Nat.ble h.length n then h else bif below n v && zt n (h.take n) then h.take n else h:=rfl
@[go_sem] theorem q46 {n:Nat}:zt n []=true:=rfl
@[go_sem] theorem q3n {n:Nat} {b:ABox} {h:qh}:zt n (b::h)=(qa0 n b && zt n h):=rfl
@[go_sem] theorem q4z {n:Nat} {cs:List (AVal × Bool)}:qa0 n (.cells cs)=qav n cs:=rfl
@[go_sem] theorem q36 {n:Nat}:qav n []=true:=rfl
@[go_sem] theorem q2n {n:Nat} {v:AVal} {o:Bool} {cs:List (AVal × Bool)}:qav n ((v,o)::cs)=(below n v && qav n cs):=rfl
def jcq (h0:Nat) (al:Option (List Nat)) (sz:Nat) (h:qh) (x y:Option AVal):Option ORes:=match x,y with
  | some (.ms b o len),some vy=>bif jx h0 al b then (match jq h b with
   | some cs=>(match qlw sz len vy with
    | some (n,vs)=>(match yr cs o vs with
     | some cs'=>bif Nat.beq vs.length (n * sz) then (match jo h b (.cells cs') with
      | some h'=>val h' (.int .i64 n)
      | none=>none) else none
     | none=>none)
    | none=>none)
   | none=>none) else none
  | _,_=>none
@[go_sem] theorem jlv {p:jk} {xc:XC} {h0:Nat} {al:Option (List Nat)} {e:Env} {h:qh} {sz:Nat} {x y:qp}:qc p xc h0 al e h (.copy sz x y)=jcq h0 al sz h (qf e x) (qf e y):=rfl
@[go_sem] theorem jme {k:IntKind} {x:Int}:qgn .neg (.int k x)=some (.int k (qk k (0 - x))):=rfl
def q2a (ks:List Kd) (neq:Bool) (h:qh) (x y:Option AVal):Option ORes:=match x,y with
  | some (.agg a),some (.agg b)=>bif Nat.beq a.length ks.length && Nat.beq b.length ks.length then (match zq ks a b with
   | some t=>val h (.bool (bif neq then !t else t))
   | none=>none) else none
  | _,_=>none
@[go_sem] theorem jmd {p:jk} {xc:XC} {h0:Nat} {al:Option (List Nat)} {e:Env} {h:qh} {ks:List Kd} {neq:Bool} {x y:qp}:qc p xc h0 al e h (.eqs ks neq x y)=q2a ks neq h (qf e x) (qf e y):=rfl
@[go_sem] theorem jmv {h:qh} {a b c d:Int}:q2a [.int,.int] false h (some (.agg [.int .i64 a,.int .i64 b])) (some (.agg [.int .i64 c,.int .i64 d]))=some ⟨.bool (decide (a=c) && decide (b=d)),false,none,h⟩:=by
 show (match zq [.int,.int] [.int .i64 a,.int .i64 b] [.int .i64 c,.int .i64 d] with | some t=>val h (.bool (bif false then !t else t)) | none=>none)=_
 have:zq [.int,.int] [.int .i64 a,.int .i64 b] [.int .i64 c,.int .i64 d]=some (decide (a=c) && decide (b=d)):=by
  have e:∀ x y:Int,(x == y)=decide (x=y):=fun x y=>by by_cases h:x=y <;> simp [h]
  simp only [zq,ki,e,decide_true,cond_true]
  by_cases h1:a=c <;> by_cases h2:b=d <;> simp [h1,h2]
 rw [this]
 rfl
def conv (f g:Nat→Nat):Nat→Nat
 | 0=>f 0 * g 0
 | s + 1=>f 0 * g (s + 1) + conv (fun k=>f (k + 1)) g s
def jd7 (b:Bool):AVal:=.bool b
@[go_sem] theorem q9c {h0:Nat} {al:Option (List Nat)} {h:qh} {b:Bool}:qao h0 al false 1 h (some (.vptr (jd7 b)))=some ⟨.bool b,false,none,h⟩:=rfl
end Go.Z
