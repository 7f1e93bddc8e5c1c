/- What the line's functions compute, and the small functions of the checks. -/
import Derived.Test.YtfopaakmgogpiaaGreatDoorZM
import Derived.Test.YtfopaakmgogpiaaGreatDoorAbsL
set_option linter.unusedVariables false
set_option linter.unusedSimpArgs false
set_option maxRecDepth 100000
open Option renaming none→I,some→Eh
namespace Go.Z
open Go Go.Abs
theorem pF {α:Type}{l:List α}{i x}(hx:l[i]?=Eh x):l.drop i=x::l.drop (i+1):=by
 obtain⟨h1,h2⟩:=List.getElem?_eq_some_iff.1 hx
 rw[List.drop_eq_getElem_cons h1,h2]
theorem jcc {i:Nat}{n}(h:i<n)(hn:n≤9223372036854775807):j6 .i64 ((i:Int)+1)=((i+1:Nat):Int):=by
 rw[q1h (by omega) (by omega)];rfl
structure jt where
 kT:List UInt8
 values:Option (List Int)
def Jc (u:jt):qa:=.agg [.str u.kT,sl 1 kh u.values]
@[go_sem] theorem j2l {u}:(Jc u).flat=[.str u.kT,sl 1 kh u.values]:=rfl
theorem q6m {n}(u:jt):below n (Jc u)=true:=by simp only[Jc,go_sem]
attribute [go_sem] q6m
def acc {α:Type}(z:Nat)(f:α→qa)(l:List α):qa:=match l with
 | []=>.list true 0 []
 |a::l=>.list false z ((a::l).map f)
def fU {α:Type}(l:List α):Bool:=!l.isEmpty
def yi {α:Type}(l:List α):Option (List α):=match l with
 | []=>I
 |a::l=>Eh (a::l)
@[go_sem] theorem zkj {α:Type}{z:Nat}{f:α→qa}:acc z f []=.list true 0 []:=rfl
@[go_sem] theorem zdp {α:Type}:fU (α:=α) []=false:=rfl
theorem Bf {α:Type}(l:List α)(x:α):fU (l++[x])=true:=by cases l<;>rfl
@[go_sem] theorem jwo {n}:mK n []=true:=rfl
@[go_sem] theorem jpb {n t v o e}:mK n ((t,v,o)::e)=(below n v&&mK n e):=rfl
@[go_sem] theorem jxe {h0 al h u}:fO h0 al true 2 h (Eh (.ah (Jc u)))=Eh ⟨.agg [.str u.kT,sl 1 kh u.values],false,I,h⟩:=rfl
def oN (i:Nat)(x:Int):Bool:=decide (65≤x∧x≤90)||decide (97≤x∧x≤122)||(decide (i≠0)&&(decide (48≤x∧x≤57)||decide (x=95)))
theorem kinds (x:Int):x≤47∨(48≤x∧x≤57)∨(58≤x∧x≤64)∨(65≤x∧x≤90)∨(91≤x∧x≤94)∨x=95∨x=96∨(97≤x∧x≤122)∨123≤x:=by omega
def vt (i:Nat):List UInt8→Bool
 | []=>true
 |c::s=>oN i c.toNat&&vt (i+1) s
def cO (s:List UInt8):Bool:=decide (s≠[])&&decide (s.length≤24)&&vt 0 s
@[go_sem] theorem jlz {v}:y5 0 v []=[]:=rfl
@[go_sem] theorem jit {h u}:EN false 0 1 h (Eh (.ah (Jc u)))=Eh ⟨.ah (.str u.kT),false,I,h⟩:=rfl
@[go_sem] theorem zlh {n v h}:y5 n v h=bif Nat.ble h.length n then h else bif below n v&&ko n (h.take n)then h.take n else h:=rfl
@[go_sem] theorem jpj {n}:ko n []=true:=rfl
@[go_sem] theorem jow {n b h}:ko n (b::h)=(nF n b&&ko n h):=rfl
@[go_sem] theorem joz {n cs}:nF n (.cells cs)=pi n cs:=rfl
@[go_sem] theorem jm3 {n}:pi n []=true:=rfl
@[go_sem] theorem jlu {n v o cs}:pi n ((v,o)::cs)=(below n v&&pi n cs):=rfl
def wH (h0:Nat)(al:Option (List Nat))(sz:Nat)(h:za)(x y:Option qa):Option qo:=match x,y with
  |some (.ms b o len),Eh vy=>bif yv h0 al b then(match ym h b with
   |some cs=>(match zY sz len vy with
    |some (n,vs)=>(match yj cs o vs with
     |some dV=>bif Nat.beq vs.length (n*sz)then(match yh h b (.cells dV)with
      |some h'=>val h' (.int .i64 n)
      |none=>I)else I
     |none=>I)
    |none=>I)
   |none=>I)else I
  |_,_=>I
@[go_sem] theorem zlp {p xc h0 al e h sz x y}:j8 p xc h0 al e h (.copy sz x y)=wH h0 al sz h (zc e x) (zc e y):=rfl
@[go_sem] theorem zl8 {k x}:xm .neg (.int k x)=Eh (.int k (j6 k (0-x))):=rfl
def Wz (ks:List Kd)(neq:Bool)(h:za)(x y:Option qa):Option qo:=match x,y with
  |some (.agg a),Eh (.agg b)=>bif Nat.beq a.length ks.length&&Nat.beq b.length ks.length then(match gH ks a b with
   |some t=>val h (.bool (bif neq then !t else t))
   |none=>I)else I
  |_,_=>I
@[go_sem] theorem zl4 {p xc h0 al e h ks neq x y}:j8 p xc h0 al e h (.eqs ks neq x y)=Wz ks neq h (zc e x) (zc e y):=rfl
def conv (f g:Nat→Nat):Nat→Nat
 |0=>f 0*g 0
 |s+1=>f 0*g (s+1)+conv (fun k=>f (k+1)) g s
def j3u (b:Bool):qa:=.bool b
@[go_sem] theorem jxt {h0 al h b}:fO h0 al false 1 h (Eh (.ah (j3u b)))=Eh ⟨.bool b,false,I,h⟩:=rfl
end Go.Z
