/- What the line's functions compute, and the small functions of the checks. -/
import Derived.Test.YtfopaakmgogpiaaGreatDoorZM
import Derived.Test.YtfopaakmgogpiaaGreatDoorAbsL
set_option maxRecDepth 100000
open Option renaming none→I,some→En
namespace Go.Z
open Go Go.Abs
theorem oW {α:Type}{l:List α}{i:Nat}{x:α}(hx:l[i]?=En x):l.drop i=x::l.drop (i+1):=by
 obtain⟨h1,h2⟩:=List.getElem?_eq_some_iff.1 hx
 rw[List.drop_eq_getElem_cons h1,h2]
theorem jcl {i:Nat}{n:Nat}(h:i<n)(hn:n≤9223372036854775807):j9 .i64 ((i:Int)+1)=((i+1:Nat):Int):=by
 rw[q0g (by omega) (by omega)];rfl
structure jr where
 kA:List UInt8
 values:Option (List Int)
def Hq (u:jr):qa:=.agg [.str u.kA,sl 1 kw u.values]
@[go_sem] theorem j4e {u:jr}:(Hq u).flat=[.str u.kA,sl 1 kw u.values]:=rfl
theorem q5y {n:Nat}(u:jr):below n (Hq u)=true:=by simp only[Hq,go_sem]
attribute [go_sem] q5y
def acc {α:Type}(z:Nat)(f:α→qa)(l:List α):qa:=match l with
 | []=>.list true 0 []
 |a::l=>.list false z ((a::l).map f)
def fK {α:Type}(l:List α):Bool:=!l.isEmpty
def yp {α:Type}(l:List α):Option (List α):=match l with
 | []=>I
 |a::l=>En (a::l)
@[go_sem] theorem zi7 {α:Type}{z:Nat}{f:α→qa}:acc z f []=.list true 0 []:=rfl
@[go_sem] theorem zel {α:Type}:fK (α:=α) []=false:=rfl
theorem Ah {α:Type}(l:List α)(x:α):fK (l++[x])=true:=by cases l<;>rfl
@[go_sem] theorem jtl {n:Nat}:l6 n []=true:=rfl
@[go_sem] theorem jnq {n t:Nat}{v:qa}{o:Bool}{e:Env}:l6 n ((t,v,o)::e)=(below n v&&l6 n e):=rfl
@[go_sem] theorem jvw {h0:Nat}{al:Option (List Nat)}{h:j8}{u:jr}:gd h0 al true 2 h (En (.ah (Hq u)))=En ⟨.agg [.str u.kA,sl 1 kw u.values],false,I,h⟩:=rfl
def oq (i:Nat)(x:Int):Bool:=decide (65≤x∧x≤90)||decide (97≤x∧x≤122)||(decide (i≠0)&&(decide (48≤x∧x≤57)||decide (x=95)))
theorem kinds (x:Int):x≤47∨(48≤x∧x≤57)∨(58≤x∧x≤64)∨(65≤x∧x≤90)∨(91≤x∧x≤94)∨x=95∨x=96∨(97≤x∧x≤122)∨123≤x:=by omega
def uI (i:Nat):List UInt8→Bool
 | []=>true
 |c::s=>oq i c.toNat&&uI (i+1) s
def cO (s:List UInt8):Bool:=decide (s≠[])&&decide (s.length≤24)&&uI 0 s
@[go_sem] theorem jjs {v:qa}:yq 0 v []=[]:=rfl
@[go_sem] theorem jeb {h:j8}{u:jr}:Dy false 0 1 h (En (.ah (Hq u)))=En ⟨.ah (.str u.kA),false,I,h⟩:=rfl
@[go_sem] theorem zjt {n:Nat}{v:qa}{h:j8}:yq n v h=bif Nat.ble h.length n then h else bif below n v&&kh n (h.take n)then h.take n else h:=rfl
@[go_sem] theorem jn2 {n:Nat}:kh n []=true:=rfl
@[go_sem] theorem jmp {n:Nat}{b:qn}{h:j8}:kh n (b::h)=(oG n b&&kh n h):=rfl
@[go_sem] theorem jk8 {n:Nat}{cs:List (qa×Bool)}:oG n (.cells cs)=oF n cs:=rfl
@[go_sem] theorem jk2 {n:Nat}:oF n []=true:=rfl
@[go_sem] theorem jkj {n:Nat}{v:qa}{o:Bool}{cs:List (qa×Bool)}:oF n ((v,o)::cs)=(below n v&&oF n cs):=rfl
def vG (h0:Nat)(al:Option (List Nat))(sz:Nat)(h:j8)(x y:Option qa):Option qq:=match x,y with
  |some (.ms b o len),En vy=>bif yv h0 al b then(match yl h b with
   |some cs=>(match yK sz len vy with
    |some (n,vs)=>(match yi cs o vs with
     |some dQ=>bif Nat.beq vs.length (n*sz)then(match yj h b (.cells dQ)with
      |some h'=>val h' (.int .i64 n)
      |none=>I)else I
     |none=>I)
    |none=>I)
   |none=>I)else I
  |_,_=>I
@[go_sem] theorem zj4 {p:qt}{xc:XC}{h0:Nat}{al:Option (List Nat)}{e:Env}{h:j8}{sz:Nat}{x y:qh}:za p xc h0 al e h (.copy sz x y)=vG h0 al sz h (zd e x) (zd e y):=rfl
@[go_sem] theorem zki {k:IntKind}{x:Int}:wv .neg (.int k x)=En (.int k (j9 k (0-x))):=rfl
def Gr (ks:List Kd)(neq:Bool)(h:j8)(x y:Option qa):Option qq:=match x,y with
  |some (.agg a),En (.agg b)=>bif Nat.beq a.length ks.length&&Nat.beq b.length ks.length then(match kz ks a b with
   |some t=>val h (.bool (bif neq then !t else t))
   |none=>I)else I
  |_,_=>I
@[go_sem] theorem zkf {p:qt}{xc:XC}{h0:Nat}{al:Option (List Nat)}{e:Env}{h:j8}{ks:List Kd}{neq:Bool}{x y:qh}:za p xc h0 al e h (.eqs ks neq x y)=Gr ks neq h (zd e x) (zd e y):=rfl
def conv (f g:Nat→Nat):Nat→Nat
 |0=>f 0*g 0
 |s+1=>f 0*g (s+1)+conv (fun k=>f (k+1)) g s
def j2g (b:Bool):qa:=.bool b
@[go_sem] theorem jvd {h0:Nat}{al:Option (List Nat)}{h:j8}{b:Bool}:gd h0 al false 1 h (En (.ah (j2g b)))=En ⟨.bool b,false,I,h⟩:=rfl
end Go.Z
