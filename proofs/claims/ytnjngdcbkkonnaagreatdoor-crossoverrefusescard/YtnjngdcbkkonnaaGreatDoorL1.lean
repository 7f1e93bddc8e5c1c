/- What the line's functions compute, and the small functions of the checks. -/
import Derived.Test.YtnjngdcbkkonnaaGreatDoorZM
import Derived.Test.YtnjngdcbkkonnaaGreatDoorAbsJ
import Derived.Test.YtnjngdcbkkonnaaGreatDoorAbsL
import Derived.Test.YtnjngdcbkkonnaaGreatDoorAbsH
import Derived.KernelRfl
set_option linter.unusedVariables false
set_option linter.unusedSimpArgs false
set_option maxRecDepth 100000
namespace Go.Z
open Go Go.Abs
theorem kl {α:Type}{l:List α}{i:Nat}{x:α}(hx:l[i]?=some x):l.drop i=x::l.drop (i+1):=by
 obtain⟨h1,h2⟩:=List.getElem?_eq_some_iff.1 hx
 rw[List.drop_eq_getElem_cons h1,h2]
theorem yb {i:Nat}{n:Nat}(h:i<n)(hn:n≤9223372036854775807):za .i64 ((i:Int)+1)=((i+1:Nat):Int):=by
 rw[yz (by omega) (by omega)];rfl
def yf (n lo hi:Int):Int:=if n<lo then 3 else if hi<n then 3 else 0
def qbf (b:Bool)(e:Int):Int:=if b then e else 0
def kf:List Int→Int
 | []=>0
 |x::l=>if x=0 then kf l else x
structure jp where
 serial:List UInt8
 values:Option (List Int)
def qx5 (u:jp):qa:=.agg [.str u.serial,sl 1 zh u.values]
@[go_sem] theorem jrq {u:jp}:(qx5 u).flat=[.str u.serial,sl 1 zh u.values]:=rfl
theorem q5a {n:Nat}(u:jp):below n (qx5 u)=true:=by simp only[qx5,go_sem]
attribute [go_sem] q5a
def acc {α:Type}(z:Nat)(f:α→qa)(l:List α):qa:=match l with
 | []=>.list true 0 []
 |a::l=>.list false z ((a::l).map f)
def kh {α:Type}(l:List α):Bool:=!l.isEmpty
def zb {α:Type}(l:List α):Option (List α):=match l with
 | []=>none
 |a::l=>some (a::l)
@[go_sem] theorem j4r {α:Type}{z:Nat}{f:α→qa}:acc z f []=.list true 0 []:=rfl
@[go_sem] theorem j2w {α:Type}:kh (α:=α) []=false:=rfl
theorem qck {α:Type}(l:List α)(x:α):kh (l++[x])=true:=by cases l<;>rfl
@[go_sem] theorem jnu {n:Nat}:qa9 n []=true:=rfl
@[go_sem] theorem ji1 {n t:Nat}{v:qa}{o:Bool}{e:Env}:qa9 n ((t,v,o)::e)=(below n v&&qa9 n e):=rfl
@[go_sem] theorem jow {h0:Nat}{al:Option (List Nat)}{h:zd}{u:jp}:qcp h0 al true 2 h (some (.vptr (qx5 u)))=some ⟨.agg [.str u.serial,sl 1 zh u.values],false,none,h⟩:=rfl
def qrc (i:Nat)(x:Int):Bool:=decide (65≤x∧x≤90)||decide (97≤x∧x≤122)||(decide (i≠0)&&(decide (48≤x∧x≤57)||decide (x=95)))
theorem kinds (x:Int):x≤47∨(48≤x∧x≤57)∨(58≤x∧x≤64)∨(65≤x∧x≤90)∨(91≤x∧x≤94)∨x=95∨x=96∨(97≤x∧x≤122)∨123≤x:=by omega
def qk9 (i:Nat):List UInt8→Bool
 | []=>true
 |c::s=>qrc i c.toNat&&qk9 (i+1) s
def qsm (s:List UInt8):Bool:=decide (s≠[])&&decide (s.length≤24)&&qk9 0 s
@[go_sem] theorem jfm {v:qa}:qag 0 v []=[]:=rfl
@[go_sem] theorem jet {h:zd}{u:jp}:qgt false 0 1 h (some (.vptr (qx5 u)))=some ⟨.vptr (.str u.serial),false,none,h⟩:=rfl
@[go_sem] theorem j41 {n:Nat}{v:qa}{h:zd}:qag n v h=bif Nat.ble h.length n then h else bif below n v&&yt n (h.take n)then h.take n else h:=rfl
@[go_sem] theorem ji2 {n:Nat}:yt n []=true:=rfl
@[go_sem] theorem jhk {n:Nat}{b:qv}{h:zd}:yt n (b::h)=(qbb n b&&yt n h):=rfl
@[go_sem] theorem jhx {n:Nat}{cs:List (qa×Bool)}:qbb n (.cells cs)=qdj n cs:=rfl
@[go_sem] theorem jhw {n:Nat}:qdj n []=true:=rfl
@[go_sem] theorem jf9 {n:Nat}{v:qa}{o:Bool}{cs:List (qa×Bool)}:qdj n ((v,o)::cs)=(below n v&&qdj n cs):=rfl
def q8p (h0:Nat)(al:Option (List Nat))(sz:Nat)(h:zd)(x y:Option qa):Option qm:=match x,y with
  |some (.ms b o len),some vy=>bif kg h0 al b then(match yl h b with
   |some cs=>(match qki sz len vy with
    |some (n,vs)=>(match qah cs o vs with
     |some cs'=>bif Nat.beq vs.length (n*sz)then(match yv h b (.cells cs')with
      |some h'=>val h' (.int .i64 n)
      |none=>none)else none
     |none=>none)
    |none=>none)
   |none=>none)else none
  |_,_=>none
@[go_sem] theorem j5f {p:qn}{xc:XC}{h0:Nat}{al:Option (List Nat)}{e:Env}{h:zd}{sz:Nat}{x y:qf}:j9 p xc h0 al e h (.copy sz x y)=q8p h0 al sz h (zc e x) (zc e y):=rfl
@[go_sem] theorem j5j {k:IntKind}{x:Int}:qm7 .neg (.int k x)=some (.int k (za k (0-x))):=rfl
def q2a (ks:List Kd)(neq:Bool)(h:zd)(x y:Option qa):Option qm:=match x,y with
  |some (.agg a),some (.agg b)=>bif Nat.beq a.length ks.length&&Nat.beq b.length ks.length then(match qae ks a b with
   |some t=>val h (.bool (bif neq then !t else t))
   |none=>none)else none
  |_,_=>none
@[go_sem] theorem j5q {p:qn}{xc:XC}{h0:Nat}{al:Option (List Nat)}{e:Env}{h:zd}{ks:List Kd}{neq:Bool}{x y:qf}:j9 p xc h0 al e h (.eqs ks neq x y)=q2a ks neq h (zc e x) (zc e y):=rfl
@[go_sem] theorem j6a {h:zd}{a b c d:Int}:q2a [.int,.int] false h (some (.agg [.int .i64 a,.int .i64 b])) (some (.agg [.int .i64 c,.int .i64 d]))=some ⟨.bool (decide (a=c)&&decide (b=d)),false,none,h⟩:=by
 show(match qae [.int,.int] [.int .i64 a,.int .i64 b] [.int .i64 c,.int .i64 d]with|some t=>val h (.bool (bif false then !t else t))|none=>none)=_
 have:qae [.int,.int] [.int .i64 a,.int .i64 b] [.int .i64 c,.int .i64 d]=some (decide (a=c)&&decide (b=d)):=by
  have e:∀x y:Int,(x == y)=decide (x=y):=fun x y=>by by_cases h:x=y<;>simp[h]
  simp only[qae,qbo,e,decide_true,cT]
  by_cases h1:a=c<;>by_cases h2:b=d<;>simp[h1,h2]
 rw[this]
 rfl
def conv (f g:Nat→Nat):Nat→Nat
 |0=>f 0*g 0
 |s+1=>f 0*g (s+1)+conv (fun k=>f (k+1)) g s
def jqd (b:Bool):qa:=.bool b
@[go_sem] theorem jof {h0:Nat}{al:Option (List Nat)}{h:zd}{b:Bool}:qcp h0 al false 1 h (some (.vptr (jqd b)))=some ⟨.bool b,false,none,h⟩:=rfl
end Go.Z
