/- What the line's functions compute, and the small functions of the checks. -/
import Derived.Test.YtnjngdcbkkonnaaGreatDoorZM
import Derived.Test.YtnjngdcbkkonnaaGreatDoorAbsJ
import Derived.Test.YtnjngdcbkkonnaaGreatDoorAbsL
import Derived.Test.YtnjngdcbkkonnaaGreatDoorAbsH
import Derived.KernelRfl
set_option linter.unusedVariables false
set_option linter.unusedSimpArgs false
set_option maxRecDepth 100000
namespace Go.Z
open Go Go.Abs
theorem kh {α:Type}{l:List α}{i:Nat}{x:α}(hx:l[i]?=some x):l.drop i=x::l.drop (i+1):=by
 obtain⟨h1,h2⟩:=List.getElem?_eq_some_iff.1 hx
 rw[List.drop_eq_getElem_cons h1,h2]
theorem yg {i:Nat}{n:Nat}(h:i<n)(hn:n≤9223372036854775807):j9 .i64 ((i:Int)+1)=((i+1:Nat):Int):=by
 rw[yq (by omega) (by omega)];rfl
def yj (n lo hi:Int):Int:=if n<lo then 3 else if hi<n then 3 else 0
def qbg (b:Bool)(e:Int):Int:=if b then e else 0
def y9:List Int→Int
 | []=>0
 |x::l=>if x=0 then y9 l else x
structure jo where
 serial:List UInt8
 values:Option (List Int)
def qx7 (u:jo):qa:=.agg [.str u.serial,sl 1 zg u.values]
@[go_sem] theorem jr2 {u:jo}:(qx7 u).flat=[.str u.serial,sl 1 zg u.values]:=rfl
theorem q5v {n:Nat}(u:jo):below n (qx7 u)=true:=by simp only[qx7,go_sem]
attribute [go_sem] q5v
def acc {α:Type}(z:Nat)(f:α→qa)(l:List α):qa:=match l with
 | []=>.list true 0 []
 |a::l=>.list false z ((a::l).map f)
def yx {α:Type}(l:List α):Bool:=!l.isEmpty
def za {α:Type}(l:List α):Option (List α):=match l with
 | []=>none
 |a::l=>some (a::l)
@[go_sem] theorem j4y {α:Type}{z:Nat}{f:α→qa}:acc z f []=.list true 0 []:=rfl
@[go_sem] theorem j0i {α:Type}:yx (α:=α) []=false:=rfl
theorem qc8 {α:Type}(l:List α)(x:α):yx (l++[x])=true:=by cases l<;>rfl
@[go_sem] theorem jn3 {n:Nat}:qa7 n []=true:=rfl
@[go_sem] theorem jk9 {n t:Nat}{v:qa}{o:Bool}{e:Env}:qa7 n ((t,v,o)::e)=(below n v&&qa7 n e):=rfl
@[go_sem] theorem jqw {h0:Nat}{al:Option (List Nat)}{h:ze}{u:jo}:qc0 h0 al true 2 h (some (.vptr (qx7 u)))=some ⟨.agg [.str u.serial,sl 1 zg u.values],false,none,h⟩:=rfl
def qqe (i:Nat)(x:Int):Bool:=decide (65≤x∧x≤90)||decide (97≤x∧x≤122)||(decide (i≠0)&&(decide (48≤x∧x≤57)||decide (x=95)))
theorem kinds (x:Int):x≤47∨(48≤x∧x≤57)∨(58≤x∧x≤64)∨(65≤x∧x≤90)∨(91≤x∧x≤94)∨x=95∨x=96∨(97≤x∧x≤122)∨123≤x:=by omega
def qlb (i:Nat):List UInt8→Bool
 | []=>true
 |c::s=>qqe i c.toNat&&qlb (i+1) s
def qrr (s:List UInt8):Bool:=decide (s≠[])&&decide (s.length≤24)&&qlb 0 s
@[go_sem] theorem jhm {v:qa}:qac 0 v []=[]:=rfl
@[go_sem] theorem jgg {h:ze}{u:jo}:qhd false 0 1 h (some (.vptr (qx7 u)))=some ⟨.vptr (.str u.serial),false,none,h⟩:=rfl
@[go_sem] theorem j5d {n:Nat}{v:qa}{h:ze}:qac n v h=bif Nat.ble h.length n then h else bif below n v&&yl n (h.take n)then h.take n else h:=rfl
@[go_sem] theorem jk4 {n:Nat}:yl n []=true:=rfl
@[go_sem] theorem jjp {n:Nat}{b:qq}{h:ze}:yl n (b::h)=(qa4 n b&&yl n h):=rfl
@[go_sem] theorem jkn {n:Nat}{cs:List (qa×Bool)}:qa4 n (.cells cs)=qcp n cs:=rfl
@[go_sem] theorem jj4 {n:Nat}:qcp n []=true:=rfl
@[go_sem] theorem jg9 {n:Nat}{v:qa}{o:Bool}{cs:List (qa×Bool)}:qcp n ((v,o)::cs)=(below n v&&qcp n cs):=rfl
def q9h (h0:Nat)(al:Option (List Nat))(sz:Nat)(h:ze)(x y:Option qa):Option qn:=match x,y with
  |some (.ms b o len),some vy=>bif kf h0 al b then(match yi h b with
   |some cs=>(match qk6 sz len vy with
    |some (n,vs)=>(match qab cs o vs with
     |some cs'=>bif Nat.beq vs.length (n*sz)then(match yu h b (.cells cs')with
      |some h'=>val h' (.int .i64 n)
      |none=>none)else none
     |none=>none)
    |none=>none)
   |none=>none)else none
  |_,_=>none
@[go_sem] theorem j5l {p:qo}{xc:XC}{h0:Nat}{al:Option (List Nat)}{e:Env}{h:ze}{sz:Nat}{x y:qf}:j8 p xc h0 al e h (.copy sz x y)=q9h h0 al sz h (zf e x) (zf e y):=rfl
@[go_sem] theorem j6c {k:IntKind}{x:Int}:qm1 .neg (.int k x)=some (.int k (j9 k (0-x))):=rfl
def q4v (ks:List Kd)(neq:Bool)(h:ze)(x y:Option qa):Option qn:=match x,y with
  |some (.agg a),some (.agg b)=>bif Nat.beq a.length ks.length&&Nat.beq b.length ks.length then(match qaf ks a b with
   |some t=>val h (.bool (bif neq then !t else t))
   |none=>none)else none
  |_,_=>none
@[go_sem] theorem j6j {p:qo}{xc:XC}{h0:Nat}{al:Option (List Nat)}{e:Env}{h:ze}{ks:List Kd}{neq:Bool}{x y:qf}:j8 p xc h0 al e h (.eqs ks neq x y)=q4v ks neq h (zf e x) (zf e y):=rfl
@[go_sem] theorem j6p {h:ze}{a b c d:Int}:q4v [.int,.int] false h (some (.agg [.int .i64 a,.int .i64 b])) (some (.agg [.int .i64 c,.int .i64 d]))=some ⟨.bool (decide (a=c)&&decide (b=d)),false,none,h⟩:=by
 show(match qaf [.int,.int] [.int .i64 a,.int .i64 b] [.int .i64 c,.int .i64 d]with|some t=>val h (.bool (bif false then !t else t))|none=>none)=_
 have:qaf [.int,.int] [.int .i64 a,.int .i64 b] [.int .i64 c,.int .i64 d]=some (decide (a=c)&&decide (b=d)):=by
  have e:∀x y:Int,(x == y)=decide (x=y):=fun x y=>by by_cases h:x=y<;>simp[h]
  simp only[qaf,qbt,e,decide_true,cT]
  by_cases h1:a=c<;>by_cases h2:b=d<;>simp[h1,h2]
 rw[this]
 rfl
def conv (f g:Nat→Nat):Nat→Nat
 |0=>f 0*g 0
 |s+1=>f 0*g (s+1)+conv (fun k=>f (k+1)) g s
def jrb (b:Bool):qa:=.bool b
@[go_sem] theorem jp4 {h0:Nat}{al:Option (List Nat)}{h:ze}{b:Bool}:qc0 h0 al false 1 h (some (.vptr (jrb b)))=some ⟨.bool b,false,none,h⟩:=rfl
end Go.Z
