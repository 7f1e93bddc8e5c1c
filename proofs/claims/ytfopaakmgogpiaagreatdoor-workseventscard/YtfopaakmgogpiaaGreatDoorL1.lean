/- What the line's functions compute, and the small functions of the checks. -/
import Derived.Test.YtfopaakmgogpiaaGreatDoorZM
import Derived.Test.YtfopaakmgogpiaaGreatDoorAbsJ
import Derived.Test.YtfopaakmgogpiaaGreatDoorAbsL
import Derived.Test.YtfopaakmgogpiaaGreatDoorAbsH
import Derived.KernelRfl
set_option linter.unusedVariables false
set_option linter.unusedSimpArgs false
set_option maxRecDepth 100000
open Option renaming none→I,some→Ef
namespace Go.Z
open Go Go.Abs
theorem qN {α:Type}{l:List α}{i:Nat}{x:α}(hx:l[i]?=Ef x):l.drop i=x::l.drop (i+1):=by
 obtain⟨h1,h2⟩:=List.getElem?_eq_some_iff.1 hx
 rw[List.drop_eq_getElem_cons h1,h2]
theorem ja6 {i:Nat}{n:Nat}(h:i<n)(hn:n≤9223372036854775807):j6 .i64 ((i:Int)+1)=((i+1:Nat):Int):=by
 rw[q0d (by omega) (by omega)];rfl
structure jr where
 kG:List UInt8
 values:Option (List Int)
def HA (u:jr):qa:=.agg [.str u.kG,sl 1 kr u.values]
@[go_sem] theorem j5q {u:jr}:(HA u).flat=[.str u.kG,sl 1 kr u.values]:=rfl
theorem q53 {n:Nat}(u:jr):below n (HA u)=true:=by simp only[HA,go_sem]
attribute [go_sem] q53
def acc {α:Type}(z:Nat)(f:α→qa)(l:List α):qa:=match l with
 | []=>.list true 0 []
 |a::l=>.list false z ((a::l).map f)
def fR {α:Type}(l:List α):Bool:=!l.isEmpty
def yq {α:Type}(l:List α):Option (List α):=match l with
 | []=>I
 |a::l=>Ef (a::l)
@[go_sem] theorem zjh {α:Type}{z:Nat}{f:α→qa}:acc z f []=.list true 0 []:=rfl
@[go_sem] theorem za1 {α:Type}:fR (α:=α) []=false:=rfl
theorem Ay {α:Type}(l:List α)(x:α):fR (l++[x])=true:=by cases l<;>rfl
@[go_sem] theorem jqt {n:Nat}:mc n []=true:=rfl
@[go_sem] theorem jnz {n t:Nat}{v:qa}{o:Bool}{e:Env}:mc n ((t,v,o)::e)=(below n v&&mc n e):=rfl
@[go_sem] theorem jv6 {h0:Nat}{al:Option (List Nat)}{h:j8}{u:jr}:eH h0 al true 2 h (Ef (.ah (HA u)))=Ef ⟨.agg [.str u.kG,sl 1 kr u.values],false,I,h⟩:=rfl
def oD (i:Nat)(x:Int):Bool:=decide (65≤x∧x≤90)||decide (97≤x∧x≤122)||(decide (i≠0)&&(decide (48≤x∧x≤57)||decide (x=95)))
theorem kinds (x:Int):x≤47∨(48≤x∧x≤57)∨(58≤x∧x≤64)∨(65≤x∧x≤90)∨(91≤x∧x≤94)∨x=95∨x=96∨(97≤x∧x≤122)∨123≤x:=by omega
def uO (i:Nat):List UInt8→Bool
 | []=>true
 |c::s=>oD i c.toNat&&uO (i+1) s
def cP (s:List UInt8):Bool:=decide (s≠[])&&decide (s.length≤24)&&uO 0 s
@[go_sem] theorem jkr {v:qa}:yi 0 v []=[]:=rfl
@[go_sem] theorem jih {h:j8}{u:jr}:DN false 0 1 h (Ef (.ah (HA u)))=Ef ⟨.ah (.str u.kG),false,I,h⟩:=rfl
@[go_sem] theorem zju {n:Nat}{v:qa}{h:j8}:yi n v h=bif Nat.ble h.length n then h else bif below n v&&kh n (h.take n)then h.take n else h:=rfl
@[go_sem] theorem jnw {n:Nat}:kh n []=true:=rfl
@[go_sem] theorem jnj {n:Nat}{b:qn}{h:j8}:kh n (b::h)=(oS n b&&kh n h):=rfl
@[go_sem] theorem jkv {n:Nat}{cs:List (qa×Bool)}:oS n (.cells cs)=oR n cs:=rfl
@[go_sem] theorem jmf {n:Nat}:oR n []=true:=rfl
@[go_sem] theorem jkk {n:Nat}{v:qa}{o:Bool}{cs:List (qa×Bool)}:oR n ((v,o)::cs)=(below n v&&oR n cs):=rfl
def vT (h0:Nat)(al:Option (List Nat))(sz:Nat)(h:j8)(x y:Option qa):Option qq:=match x,y with
  |some (.ms b o len),Ef vy=>bif yv h0 al b then(match ym h b with
   |some cs=>(match yY sz len vy with
    |some (n,vs)=>(match yh cs o vs with
     |some dV=>bif Nat.beq vs.length (n*sz)then(match yl h b (.cells dV)with
      |some h'=>val h' (.int .i64 n)
      |none=>I)else I
     |none=>I)
    |none=>I)
   |none=>I)else I
  |_,_=>I
@[go_sem] theorem zj6 {p:qt}{xc:XC}{h0:Nat}{al:Option (List Nat)}{e:Env}{h:j8}{sz:Nat}{x y:qh}:j9 p xc h0 al e h (.copy sz x y)=vT h0 al sz h (zc e x) (zc e y):=rfl
@[go_sem] theorem zkc {k:IntKind}{x:Int}:wL .neg (.int k x)=Ef (.int k (j6 k (0-x))):=rfl
def GI (ks:List Kd)(neq:Bool)(h:j8)(x y:Option qa):Option qq:=match x,y with
  |some (.agg a),Ef (.agg b)=>bif Nat.beq a.length ks.length&&Nat.beq b.length ks.length then(match ky ks a b with
   |some t=>val h (.bool (bif neq then !t else t))
   |none=>I)else I
  |_,_=>I
@[go_sem] theorem zkr {p:qt}{xc:XC}{h0:Nat}{al:Option (List Nat)}{e:Env}{h:j8}{ks:List Kd}{neq:Bool}{x y:qh}:j9 p xc h0 al e h (.eqs ks neq x y)=GI ks neq h (zc e x) (zc e y):=rfl
def conv (f g:Nat→Nat):Nat→Nat
 |0=>f 0*g 0
 |s+1=>f 0*g (s+1)+conv (fun k=>f (k+1)) g s
def j4v (b:Bool):qa:=.bool b
@[go_sem] theorem jv2 {h0:Nat}{al:Option (List Nat)}{h:j8}{b:Bool}:eH h0 al false 1 h (Ef (.ah (j4v b)))=Ef ⟨.bool b,false,I,h⟩:=rfl
end Go.Z
