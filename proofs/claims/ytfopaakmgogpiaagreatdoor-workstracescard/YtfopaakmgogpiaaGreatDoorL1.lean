/- What the line's functions compute, and the small functions of the checks. -/
import Derived.Test.YtfopaakmgogpiaaGreatDoorZM
import Derived.Test.YtfopaakmgogpiaaGreatDoorAbsL
set_option linter.unusedVariables false
set_option linter.unusedSimpArgs false
set_option maxRecDepth 100000
open Option renaming none→I,some→Eh
namespace Go.Z
open Go Go.Abs
theorem uP {α:Type}{l:List α}{i:Nat}{x:α}(hx:l[i]?=Eh x):l.drop i=x::l.drop (i+1):=by
 obtain⟨h1,h2⟩:=List.getElem?_eq_some_iff.1 hx
 rw[List.drop_eq_getElem_cons h1,h2]
theorem jab {i:Nat}{n:Nat}(h:i<n)(hn:n≤9223372036854775807):j9 .i64 ((i:Int)+1)=((i+1:Nat):Int):=by
 rw[qzn (by omega) (by omega)];rfl
structure js where
 kK:List UInt8
 values:Option (List Int)
def HM (u:js):qa:=.agg [.str u.kK,sl 1 kn u.values]
@[go_sem] theorem j0i {u:js}:(HM u).flat=[.str u.kK,sl 1 kn u.values]:=rfl
theorem q43 {n:Nat}(u:js):below n (HM u)=true:=by simp only[HM,go_sem]
attribute [go_sem] q43
def acc {α:Type}(z:Nat)(f:α→qa)(l:List α):qa:=match l with
 | []=>.list true 0 []
 |a::l=>.list false z ((a::l).map f)
def gG {α:Type}(l:List α):Bool:=!l.isEmpty
def yg {α:Type}(l:List α):Option (List α):=match l with
 | []=>I
 |a::l=>Eh (a::l)
@[go_sem] theorem zii {α:Type}{z:Nat}{f:α→qa}:acc z f []=.list true 0 []:=rfl
@[go_sem] theorem zet {α:Type}:gG (α:=α) []=false:=rfl
theorem AJ {α:Type}(l:List α)(x:α):gG (l++[x])=true:=by cases l<;>rfl
@[go_sem] theorem jpl {n:Nat}:mf n []=true:=rfl
@[go_sem] theorem jnh {n t:Nat}{v:qa}{o:Bool}{e:Env}:mf n ((t,v,o)::e)=(below n v&&mf n e):=rfl
@[go_sem] theorem juo {h0:Nat}{al:Option (List Nat)}{h:j8}{u:js}:fN h0 al true 2 h (Eh (.ah (HM u)))=Eh ⟨.agg [.str u.kK,sl 1 kn u.values],false,I,h⟩:=rfl
def oy (i:Nat)(x:Int):Bool:=decide (65≤x∧x≤90)||decide (97≤x∧x≤122)||(decide (i≠0)&&(decide (48≤x∧x≤57)||decide (x=95)))
theorem kinds (x:Int):x≤47∨(48≤x∧x≤57)∨(58≤x∧x≤64)∨(65≤x∧x≤90)∨(91≤x∧x≤94)∨x=95∨x=96∨(97≤x∧x≤122)∨123≤x:=by omega
def uY (i:Nat):List UInt8→Bool
 | []=>true
 |c::s=>oy i c.toNat&&uY (i+1) s
def cj (s:List UInt8):Bool:=decide (s≠[])&&decide (s.length≤24)&&uY 0 s
@[go_sem] theorem jjc {v:qa}:yx 0 v []=[]:=rfl
@[go_sem] theorem jdv {h:j8}{u:js}:DS false 0 1 h (Eh (.ah (HM u)))=Eh ⟨.ah (.str u.kK),false,I,h⟩:=rfl
@[go_sem] theorem zjb {n:Nat}{v:qa}{h:j8}:yx n v h=bif Nat.ble h.length n then h else bif below n v&&ko n (h.take n)then h.take n else h:=rfl
@[go_sem] theorem jnd {n:Nat}:ko n []=true:=rfl
@[go_sem] theorem jkm {n:Nat}{b:qm}{h:j8}:ko n (b::h)=(oN n b&&ko n h):=rfl
@[go_sem] theorem jlj {n:Nat}{cs:List (qa×Bool)}:oN n (.cells cs)=oM n cs:=rfl
@[go_sem] theorem jml {n:Nat}:oM n []=true:=rfl
@[go_sem] theorem jjq {n:Nat}{v:qa}{o:Bool}{cs:List (qa×Bool)}:oM n ((v,o)::cs)=(below n v&&oM n cs):=rfl
def wj (h0:Nat)(al:Option (List Nat))(sz:Nat)(h:j8)(x y:Option qa):Option qq:=match x,y with
  |some (.ms b o len),Eh vy=>bif yw h0 al b then(match yl h b with
   |some cs=>(match zy sz len vy with
    |some (n,vs)=>(match yi cs o vs with
     |some dX=>bif Nat.beq vs.length (n*sz)then(match yj h b (.cells dX)with
      |some h'=>val h' (.int .i64 n)
      |none=>I)else I
     |none=>I)
    |none=>I)
   |none=>I)else I
  |_,_=>I
@[go_sem] theorem zi3 {p:qr}{xc:XC}{h0:Nat}{al:Option (List Nat)}{e:Env}{h:j8}{sz:Nat}{x y:qf}:za p xc h0 al e h (.copy sz x y)=wj h0 al sz h (zd e x) (zd e y):=rfl
@[go_sem] theorem zjt {k:IntKind}{x:Int}:wV .neg (.int k x)=Eh (.int k (j9 k (0-x))):=rfl
def UY (ks:List Kd)(neq:Bool)(h:j8)(x y:Option qa):Option qq:=match x,y with
  |some (.agg a),Eh (.agg b)=>bif Nat.beq a.length ks.length&&Nat.beq b.length ks.length then(match gL ks a b with
   |some t=>val h (.bool (bif neq then !t else t))
   |none=>I)else I
  |_,_=>I
@[go_sem] theorem zjr {p:qr}{xc:XC}{h0:Nat}{al:Option (List Nat)}{e:Env}{h:j8}{ks:List Kd}{neq:Bool}{x y:qf}:za p xc h0 al e h (.eqs ks neq x y)=UY ks neq h (zd e x) (zd e y):=rfl
def conv (f g:Nat→Nat):Nat→Nat
 |0=>f 0*g 0
 |s+1=>f 0*g (s+1)+conv (fun k=>f (k+1)) g s
def j4f (b:Bool):qa:=.bool b
@[go_sem] theorem jve {h0:Nat}{al:Option (List Nat)}{h:j8}{b:Bool}:fN h0 al false 1 h (Eh (.ah (j4f b)))=Eh ⟨.bool b,false,I,h⟩:=rfl
end Go.Z
