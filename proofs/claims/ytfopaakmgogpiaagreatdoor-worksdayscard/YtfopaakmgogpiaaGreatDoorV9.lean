/- Chapter 10. -/
import Derived.Test.YtfopaakmgogpiaaGreatDoorV8
import Derived.Test.YtfopaakmgogpiaaGreatDoorW14
set_option maxRecDepth 100000
set_option maxHeartbeats 4000000
noncomputable section
open Option renaming some→I,none→E1
open Bool renaming false→En
namespace Go.Z
open Go Go.Abs Go.W
@[go_sem] theorem j9g {b v l:Nat}:(qa.ak b v l).flat=[.ak b v l]:=rfl
@[go_sem] theorem zja {b v l:Nat}:ze (.ak b v l)=true:=rfl
@[go_sem] theorem j8t {b v l:Nat}:qa.cu (.ak b v l)=En:=rfl
theorem zhn:∀ x:qm,(vev x).flat.length=5:=fun _=>rfl
theorem j11:∀ x:qc,(y6 x).flat.length=4:=fun _=>rfl
section
variable {h:j8}{α:Type}
theorem H5 {sz b v len:Nat}{l:List α}{i:Int}{x:α}(hx:zp (l.take len) i=I x):kL sz h (I (.ak b v len)) (I (Iv i))=I ⟨.dq b v (i.toNat*sz),En,E1,h⟩∧l[i.toNat]?=I x:=by
 unfold zp at hx
 split at hx
 ·rename_i hi
  have h2:=(List.getElem?_eq_some_iff.1 hx).1
  rw[List.length_take]at h2
  have h3:i.toNat<len:=by omega
  refine⟨?_,?_⟩
  ·have:=jbo (sz:=sz) (h:=h) (b:=b) (v:=v) (k:=.i64) h3
   rw[Int.toNat_of_nonneg hi]at this
   exact this
  ·rw[List.getElem?_take,if_pos h3]at hx
   exact hx
 ·cases hx
theorem jqp {sz b v len:Nat}{i:Int}(hi:0≤i)(hl:i≤(len:Int)):qG sz h (I (.ak b v len)) E1 (I (I (Iv i)))=I ⟨.ak b v i.toNat,En,E1,h⟩:=by
 have:qR len len (I (I (Iv i)))=I i.toNat:=by
  simp only[qR,yJ]
  cases i with
  |ofNat n=>
   have h1:((n:Nat):Int)≤(len:Int):=hl
   have h2:n≤len:=by omega
   simp only[Nat.ble_eq_true_of_le h2,cT]
   rfl
  |negSucc n=>omega
 simp only[qG,this]
 rfl
def qM (xs:List α)(len:Nat)(x:α):Option (List α):=if len≤xs.length∧len+1≤1073741824 then I (xs.take len++[x])else E1
theorem H6 {h0 b v len r sz bytes:Nat}{c:Bool}{f:α→qa}{l l':List α}{x:α}(hp:qM l len x=I l')(hb:h[b]?=I (.vec sz v (l.map f)))(hx:zw 0 [f x]=true)(hz:0<sz)(TG:bytes≤4096)(hr:r<1000):
  n8 h0 r sz bytes h (I (.ak b v len)) (I (.list c sz [f x]))=I ⟨.ak b (v+1) (len+1),En,E1,h.set b (.vec sz (v+1) (l'.map f))⟩:=by
 unfold qM at hp
 split at hp
 ·rename_i hl
  cases hp
  have:=jbf (h:=h) (h0:=h0) (c:=c) (ys:=[f x]) hb (by rw[List.length_map];exact hl.1) (by simpa using hl.2) TG hz hx hr
  rw[this]
  simp[List.map_take]
 ·cases hp
end
structure HV where
 ev:List qm
 ve:Nat
 cs:List qm
 lc:Nat
 vc:Nat
 ss:List qc
 ls:Nat
 vs:Nat
abbrev kV (v:HV)(a b c:Nat):qn:=.cells [(.ak a v.ve v.ev.length,En),(.ak b v.vc v.lc,En),(.ak c v.vs v.ls,En)]
theorem jl7 {n:Nat}{st:qg}(h:kh n (st.heap.take n)=En):gc n st=st:=by
 unfold gc
 rw[h,Bool.and_false,cond_false]
 cases Nat.ble st.heap.length n<;>rfl
theorem qz3 {α:Type}{l l':List α}{x:α}(h:qM l l.length x=I l'):l'.length=l.length+1:=by
 unfold qM at h
 split at h
 ·cases h;simp
 ·cases h
def Hc (s:HV)(e:qm):Option (Int×HV):=
 cond (decide (e.number=j9 .i64 ((s.ev.length:Int)+1)))
  (cond (decide (e.kind=([117,110,100,111]:List UInt8)))
   (jx (f53 (decide ((s.lc:Int)=0)) 12) fun e1=>
   cond (decide (0<(s.lc:Int)))
    (jx (zp (s.cs.take s.lc) (max 0 (j9 .i64 ((s.lc:Int)-1)))) fun x=>
    jx (f53 (decide (x.kind=([115,104,105,112]:List UInt8))) 19) fun e2=>
    jx (f51 (I [e1,e2])) fun e3=>
    cond (decide (e3=0))
     (cond (decide (0≤j9 .i64 ((s.lc:Int)-1)∧j9 .i64 ((s.lc:Int)-1)≤(s.lc:Int)∧s.lc≤s.ls))
      (jx (qM s.ev s.ev.length e) fun ev=>I (0,{ s with ev:=ev,ve:=s.ve+1,lc:=(j9 .i64 ((s.lc:Int)-1)).toNat,ls:=s.lc }))
      E1)
     (I (e3,s)))
    (jx (f53 En 19) fun e2=>jx (f51 (I [e1,e2])) fun e3=>cond (decide (e3=0)) E1 (I (e3,s))))
   (jx (zp (s.ss.take s.ls) (j9 .i64 ((s.ls:Int)-1))) fun r=>
   jx (f121 r e) fun v=>
   cond (decide (v.2=0))
    (jx (qM s.cs s.lc e) fun cs=>jx (qM s.ss s.ls v.1) fun ss=>jx (qM s.ev s.ev.length e) fun ev=>
    I (0,{ ev:=ev,ve:=s.ve+1,cs:=cs,lc:=s.lc+1,vc:=s.vc+1,ss:=ss,ls:=s.ls+1,vs:=s.vs+1 }))
    (I (v.2,s))))
  (I (11,s))
theorem jju:decide (((([]:List qa).length:Nat):Int)=0)=true:=rfl
theorem zf0:decide ((0:Int)<((([]:List qa).length:Nat):Int))=En:=rfl
theorem zb8:decide ((0:Int)<((0:Nat):Int))=En:=rfl
def eM:qc:=⟨0,E1,E1,E1⟩
def G9 (e:qm):Option (Int×Option HV):=
 cond (decide (e.number=j9 .i64 1))
  (cond (decide (e.kind=([117,110,100,111]:List UInt8)))
   (jx (f53 true 12) fun e1=>jx (f53 En 19) fun e2=>jx (f51 (I [e1,e2])) fun e3=>cond (decide (e3=0)) E1 (I (e3,E1)))
   (jx (f121 eM e) fun v=>
   cond (decide (v.2=0))
    (I (0,I { ev:=[e],ve:=0,cs:=[e],lc:=1,vc:=0,ss:=[eM,v.1],ls:=2,vs:=1 }))
    (I (v.2,E1))))
  (I (11,E1))
def ND (s:Option HV)(e:qm):Option (Int×Option HV):=match s with
 |none=>G9 e
 |some s=>jx (Hc s e) fun q=>I (q.1,I q.2)
def AF (l:Option (List qm))(x:Int×Option HV):Option ((Int×Option HV)⊕((Int×Int×Option HV)⊕(Int×Option HV))):=
 cond (decide (x.1<((l.getD []).length:Int)))
  (jx (zp (l.getD []) x.1) fun e=>
  jx (f11 e) fun c=>
  cond (decide (c=0))
   (jx (f66 e) fun e2=>
   jx (ND x.2 e2) fun q=>
   cond (decide (q.1=0))
    (I (.inl (j9 .i64 (x.1+1),q.2)))
    (I (.inr (.inl (j9 .i64 (x.1+1),q.1,q.2)))))
   (I (.inr (.inl (j9 .i64 (x.1+1),c,x.2)))))
  (I (.inr (.inr x)))
def f47 (l:Option (List qm)):Option ((Int×Int)⊕Option HV):=
 cond (decide (1000<((l.getD []).length:Int)))
  (I (.inl (0,5)))
  (jx (bf (AF l) (0,E1)) fun d=>match d with
  | .inl d=>I (.inl (d.1,d.2.1))
  | .inr d=>I (.inr d.2))
end Go.Z
namespace Go.Z
open Go Go.Abs Go.W
def zdn:Option HV→Option qc
 |none=>I eM
 |some s=>zp (s.ss.take s.ls) (j9 .i64 ((s.ls:Int)-1))
def f9 (l:Option (List qm)):Option (qc×Int×Int):=jx (f47 l) fun r=>match r with
 | .inl x=>cond (decide (x.2=0)) E1 (I (eM,x.1,x.2))
 | .inr o=>jx (zdn o) fun r=>I (r,0,0)
end Go.Z
end
