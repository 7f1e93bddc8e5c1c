/- What the line's functions compute, and the small functions of the checks. -/
import Derived.Test.YtfopaakmgogpiaaGreatDoorZC
import Derived.Test.YtfopaakmgogpiaaGreatDoorAbsH
import Derived.Test.YtfopaakmgogpiaaGreatDoorAbsJ
import Derived.Test.YtfopaakmgogpiaaGreatDoorAbsL
set_option linter.unusedVariables false
set_option linter.unusedSimpArgs false
set_option maxRecDepth 100000
namespace Go.Z
open Go Go.Abs
theorem qda {α:Type}{l:List α}{i:Nat}{x:α}(hx:l[i]?=some x):l.drop i=x::l.drop (i+1):=by
 obtain⟨h1,h2⟩:=List.getElem?_eq_some_iff.1 hx
 rw[List.drop_eq_getElem_cons h1,h2]
theorem jao {i:Nat}{n:Nat}(h:i<n)(hn:n≤9223372036854775807):j8 .i64 ((i:Int)+1)=((i+1:Nat):Int):=by
 rw[q0o (by omega) (by omega)];rfl
structure jr where
 serial:List UInt8
 values:Option (List Int)
def qxj (u:jr):qa:=.agg [.str u.serial,sl 1 yb u.values]
@[go_sem] theorem jr8 {u:jr}:(qxj u).flat=[.str u.serial,sl 1 yb u.values]:=rfl
theorem q41 {n:Nat}(u:jr):below n (qxj u)=true:=by simp only[qxj,go_sem]
attribute [go_sem] q41
def acc {α:Type}(z:Nat)(f:α→qa)(l:List α):qa:=match l with
 | []=>.list true 0 []
 |a::l=>.list false z ((a::l).map f)
def qct {α:Type}(l:List α):Bool:=!l.isEmpty
def y7 {α:Type}(l:List α):Option (List α):=match l with
 | []=>none
 |a::l=>some (a::l)
@[go_sem] theorem zbt {α:Type}{z:Nat}{f:α→qa}:acc z f []=.list true 0 []:=rfl
@[go_sem] theorem j9g {α:Type}:qct (α:=α) []=false:=rfl
theorem qgv {α:Type}(l:List α)(x:α):qct (l++[x])=true:=by cases l<;>rfl
@[go_sem] theorem jk6 {n:Nat}:qce n []=true:=rfl
@[go_sem] theorem jjj {n t:Nat}{v:qa}{o:Bool}{e:Env}:qce n ((t,v,o)::e)=(below n v&&qce n e):=rfl
@[go_sem] theorem jpv {h0:Nat}{al:Option (List Nat)}{h:zb}{u:jr}:qa5 h0 al true 2 h (some (.vptr (qxj u)))=some ⟨.agg [.str u.serial,sl 1 yb u.values],false,none,h⟩:=rfl
def qg5 (i:Nat)(x:Int):Bool:=decide (65≤x∧x≤90)||decide (97≤x∧x≤122)||(decide (i≠0)&&(decide (48≤x∧x≤57)||decide (x=95)))
theorem kinds (x:Int):x≤47∨(48≤x∧x≤57)∨(58≤x∧x≤64)∨(65≤x∧x≤90)∨(91≤x∧x≤94)∨x=95∨x=96∨(97≤x∧x≤122)∨123≤x:=by omega
def qf7 (i:Nat):List UInt8→Bool
 | []=>true
 |c::s=>qg5 i c.toNat&&qf7 (i+1) s
def isName (s:List UInt8):Bool:=decide (s≠[])&&decide (s.length≤24)&&qf7 0 s
@[go_sem] theorem jgh {v:qa}:yt 0 v []=[]:=rfl
@[go_sem] theorem jcr {h:zb}{u:jr}:qg2 false 0 1 h (some (.vptr (qxj u)))=some ⟨.vptr (.str u.serial),false,none,h⟩:=rfl
@[go_sem] theorem zcz {n:Nat}{v:qa}{h:zb}:yt n v h=bif Nat.ble h.length n then h else bif below n v&&ky n (h.take n)then h.take n else h:=rfl
@[go_sem] theorem jjw {n:Nat}:ky n []=true:=rfl
@[go_sem] theorem jh0 {n:Nat}{b:qr}{h:zb}:ky n (b::h)=(qdl n b&&ky n h):=rfl
@[go_sem] theorem jh4 {n:Nat}{cs:List (qa×Bool)}:qdl n (.cells cs)=qcc n cs:=rfl
@[go_sem] theorem jgy {n:Nat}:qcc n []=true:=rfl
@[go_sem] theorem jf4 {n:Nat}{v:qa}{o:Bool}{cs:List (qa×Bool)}:qcc n ((v,o)::cs)=(below n v&&qcc n cs):=rfl
def qld (h0:Nat)(al:Option (List Nat))(sz:Nat)(h:zb)(x y:Option qa):Option qp:=match x,y with
  |some (.ms b o len),some vy=>bif ke h0 al b then(match yw h b with
   |some cs=>(match qjd sz len vy with
    |some (n,vs)=>(match yu cs o vs with
     |some cs'=>bif Nat.beq vs.length (n*sz)then(match yv h b (.cells cs')with
      |some h'=>val h' (.int .i64 n)
      |none=>none)else none
     |none=>none)
    |none=>none)
   |none=>none)else none
  |_,_=>none
@[go_sem] theorem zc2 {p:qu}{xc:XC}{h0:Nat}{al:Option (List Nat)}{e:Env}{h:zb}{sz:Nat}{x y:qf}:j9 p xc h0 al e h (.copy sz x y)=qld h0 al sz h (zh e x) (zh e y):=rfl
@[go_sem] theorem zdh {k:IntKind}{x:Int}:qnl .neg (.int k x)=some (.int k (j8 k (0-x))):=rfl
def q3f (ks:List Kd)(neq:Bool)(h:zb)(x y:Option qa):Option qp:=match x,y with
  |some (.agg a),some (.agg b)=>bif Nat.beq a.length ks.length&&Nat.beq b.length ks.length then(match qal ks a b with
   |some t=>val h (.bool (bif neq then !t else t))
   |none=>none)else none
  |_,_=>none
@[go_sem] theorem zdq {p:qu}{xc:XC}{h0:Nat}{al:Option (List Nat)}{e:Env}{h:zb}{ks:List Kd}{neq:Bool}{x y:qf}:j9 p xc h0 al e h (.eqs ks neq x y)=q3f ks neq h (zh e x) (zh e y):=rfl
def jwe (b:Bool):qa:=.bool b
@[go_sem] theorem jp1 {h0:Nat}{al:Option (List Nat)}{h:zb}{b:Bool}:qa5 h0 al false 1 h (some (.vptr (jwe b)))=some ⟨.bool b,false,none,h⟩:=rfl
end Go.Z
