/- What the line's functions compute, and the small functions of the checks. -/
import Derived.Test.YtfopaakmgogpiaaGreatDoorZC
import Derived.Test.YtfopaakmgogpiaaGreatDoorAbsH
import Derived.Test.YtfopaakmgogpiaaGreatDoorAbsJ
import Derived.Test.YtfopaakmgogpiaaGreatDoorAbsL
set_option linter.unusedVariables false
set_option linter.unusedSimpArgs false
set_option maxRecDepth 100000
namespace Go.Z
open Go Go.Abs
theorem qcp {α:Type}{l:List α}{i:Nat}{x:α}(hx:l[i]?=some x):l.drop i=x::l.drop (i+1):=by
 obtain⟨h1,h2⟩:=List.getElem?_eq_some_iff.1 hx
 rw[List.drop_eq_getElem_cons h1,h2]
theorem jcc {i:Nat}{n:Nat}(h:i<n)(hn:n≤9223372036854775807):j6 .i64 ((i:Int)+1)=((i+1:Nat):Int):=by
 rw[q0j (by omega) (by omega)];rfl
structure jr where
 serial:List UInt8
 values:Option (List Int)
def qxj (u:jr):qa:=.agg [.str u.serial,sl 1 kr u.values]
@[go_sem] theorem jx6 {u:jr}:(qxj u).flat=[.str u.serial,sl 1 kr u.values]:=rfl
theorem q5g {n:Nat}(u:jr):below n (qxj u)=true:=by simp only[qxj,go_sem]
attribute [go_sem] q5g
def acc {α:Type}(z:Nat)(f:α→qa)(l:List α):qa:=match l with
 | []=>.list true 0 []
 |a::l=>.list false z ((a::l).map f)
def qb9 {α:Type}(l:List α):Bool:=!l.isEmpty
def yr {α:Type}(l:List α):Option (List α):=match l with
 | []=>none
 |a::l=>some (a::l)
@[go_sem] theorem zib {α:Type}{z:Nat}{f:α→qa}:acc z f []=.list true 0 []:=rfl
@[go_sem] theorem zda {α:Type}:qb9 (α:=α) []=false:=rfl
theorem qfj {α:Type}(l:List α)(x:α):qb9 (l++[x])=true:=by cases l<;>rfl
@[go_sem] theorem jtr {n:Nat}:qbw n []=true:=rfl
@[go_sem] theorem jnh {n t:Nat}{v:qa}{o:Bool}{e:Env}:qbw n ((t,v,o)::e)=(below n v&&qbw n e):=rfl
@[go_sem] theorem jvu {h0:Nat}{al:Option (List Nat)}{h:j8}{u:jr}:qas h0 al true 2 h (some (.vptr (qxj u)))=some ⟨.agg [.str u.serial,sl 1 kr u.values],false,none,h⟩:=rfl
def qf8 (i:Nat)(x:Int):Bool:=decide (65≤x∧x≤90)||decide (97≤x∧x≤122)||(decide (i≠0)&&(decide (48≤x∧x≤57)||decide (x=95)))
theorem kinds (x:Int):x≤47∨(48≤x∧x≤57)∨(58≤x∧x≤64)∨(65≤x∧x≤90)∨(91≤x∧x≤94)∨x=95∨x=96∨(97≤x∧x≤122)∨123≤x:=by omega
def qe9 (i:Nat):List UInt8→Bool
 | []=>true
 |c::s=>qf8 i c.toNat&&qe9 (i+1) s
def isName (s:List UInt8):Bool:=decide (s≠[])&&decide (s.length≤24)&&qe9 0 s
@[go_sem] theorem jj1 {v:qa}:yi 0 v []=[]:=rfl
@[go_sem] theorem jd3 {h:j8}{u:jr}:qf3 false 0 1 h (some (.vptr (qxj u)))=some ⟨.vptr (.str u.serial),false,none,h⟩:=rfl
@[go_sem] theorem zjj {n:Nat}{v:qa}{h:j8}:yi n v h=bif Nat.ble h.length n then h else bif below n v&&ki n (h.take n)then h.take n else h:=rfl
@[go_sem] theorem jna {n:Nat}:ki n []=true:=rfl
@[go_sem] theorem jkq {n:Nat}{b:qn}{h:j8}:ki n (b::h)=(qcx n b&&ki n h):=rfl
@[go_sem] theorem jme {n:Nat}{cs:List (qa×Bool)}:qcx n (.cells cs)=qbt n cs:=rfl
@[go_sem] theorem jkg {n:Nat}:qbt n []=true:=rfl
@[go_sem] theorem jjb {n:Nat}{v:qa}{o:Bool}{cs:List (qa×Bool)}:qbt n ((v,o)::cs)=(below n v&&qbt n cs):=rfl
def qjs (h0:Nat)(al:Option (List Nat))(sz:Nat)(h:j8)(x y:Option qa):Option qq:=match x,y with
  |some (.ms b o len),some vy=>bif yv h0 al b then(match yn h b with
   |some cs=>(match qig sz len vy with
    |some (n,vs)=>(match yj cs o vs with
     |some cs'=>bif Nat.beq vs.length (n*sz)then(match ym h b (.cells cs')with
      |some h'=>val h' (.int .i64 n)
      |none=>none)else none
     |none=>none)
    |none=>none)
   |none=>none)else none
  |_,_=>none
@[go_sem] theorem zjs {p:qt}{xc:XC}{h0:Nat}{al:Option (List Nat)}{e:Env}{h:j8}{sz:Nat}{x y:qh}:j9 p xc h0 al e h (.copy sz x y)=qjs h0 al sz h (zc e x) (zc e y):=rfl
@[go_sem] theorem zka {k:IntKind}{x:Int}:ql4 .neg (.int k x)=some (.int k (j6 k (0-x))):=rfl
def q2u (ks:List Kd)(neq:Bool)(h:j8)(x y:Option qa):Option qq:=match x,y with
  |some (.agg a),some (.agg b)=>bif Nat.beq a.length ks.length&&Nat.beq b.length ks.length then(match kz ks a b with
   |some t=>val h (.bool (bif neq then !t else t))
   |none=>none)else none
  |_,_=>none
@[go_sem] theorem zkb {p:qt}{xc:XC}{h0:Nat}{al:Option (List Nat)}{e:Env}{h:j8}{ks:List Kd}{neq:Bool}{x y:qh}:j9 p xc h0 al e h (.eqs ks neq x y)=q2u ks neq h (zc e x) (zc e y):=rfl
def j54 (b:Bool):qa:=.bool b
@[go_sem] theorem jvh {h0:Nat}{al:Option (List Nat)}{h:j8}{b:Bool}:qas h0 al false 1 h (some (.vptr (j54 b)))=some ⟨.bool b,false,none,h⟩:=rfl
end Go.Z
