/- Chapter 10. -/
import Derived.Test.YtlhfdilpecnjeaaGreatDoorW12
set_option linter.unusedVariables false
set_option linter.unusedSimpArgs false
set_option maxRecDepth 100000
set_option maxHeartbeats 4000000
noncomputable section
open Option renaming some->En,none->Ha
open Bool renaming false->E6
namespace Go.Z
open Go Go.Abs Go.W
@[go_sem] theorem zb5 {b v l}:(AVal.ay b v l).flat=[.ay b v l]:=rfl
@[go_sem] theorem zld {b v l}:qk (.ay b v l)=true:=rfl
@[go_sem] theorem j9w {b v l}:AVal.cP (.ay b v l)=E6:=rfl
theorem jv4:∀ x:GEv,(vev x).flat.length=5:=fun _=>rfl
theorem j61:∀ x:aw,(z6 x).flat.length=4:=fun _=>rfl
section
variable {h:qf}{α:Type}
theorem G2 {sz b v len:Nat}{l:List α}{i x}(M:qm (l.take len) i=En x):mr sz h (En (.ay b v len)) (En (Iv i))=En ⟨.dT b v (i.toNat*sz),E6,Ha,h⟩/\l[i.toNat]?=En x:=by
 unfold qm at M;split at M
 .rename_i hi;have I:=(List.getElem?_eq_some_iff.1 M).1;rw[List.length_take]at I
  have h3:i.toNat<len:=by omega
  refine⟨?_,?_⟩
  .have:=jih (sz:=sz) (h:=h) (b:=b) (v:=v) (k:=.i64) h3;rw[Int.toNat_of_nonneg hi]at this;exact this
  .rw[List.getElem?_take,if_pos h3]at M;exact M
 .cases M
theorem jv2 {sz b v len:Nat}{i}(hi:0<=i)(hl:i<=(len:Int)):pU sz h (En (.ay b v len)) Ha (En (En (Iv i)))=En ⟨.ay b v i.toNat,E6,Ha,h⟩:=by
 have:qE len len (En (En (Iv i)))=En i.toNat:=by
  simp only[qE,Ay]
  cases i with
  |ofNat n=>
   have Y:((n:Nat):Int)<=(len:Int):=hl
   have I:n<=len:=by omega
   simp only[Nat.ble_eq_true_of_le I,cond_true];rfl
  |negSucc n=>omega
 simp only[pU,this];rfl
def qC (xs:List α)(len:Nat)(x:α):Option (List α):=if len<=xs.length/\len+1<=1073741824 then En (xs.take len++[x])else Ha
theorem KR {h0 b v len r sz bytes:Nat}{c:Bool}{f:α->AVal}{l l':List α}{x}(hp:qC l len x=En l')(hb:h[b]?=En (.vec sz v (l.map f)))(M:qo 0 [f x]=true)(hz:0<sz)(UG:bytes<=4096)(Q:r<1000):
  pT h0 r sz bytes h (En (.ay b v len)) (En (.list c sz [f x]))=En ⟨.ay b (v+1) (len+1),E6,Ha,h.set b (.vec sz (v+1) (l'.map f))⟩:=by
 unfold qC at hp;split at hp
 .rename_i hl;cases hp;have:=jjr (h:=h) (h0:=h0) (c:=c) (ys:=[f x]) hb (by rw[List.length_map];exact hl.1) (by simpa using hl.2) UG hz M Q;rw[this];simp[List.map_take]
 .cases hp
end
structure HV where
 ev:List GEv
 ve:Nat
 cs:List GEv
 lc:Nat
 vc:Nat
 ss:List aw
 ls:Nat
 vs:Nat
abbrev kV (v:HV)(a b c:Nat):aK:=.cells [(.ay a v.ve v.ev.length,E6),(.ay b v.vc v.lc,E6),(.ay c v.vs v.ls,E6)]
theorem jbq {n st}(h:qr n (st.heap.take n)=E6):gc n st=st:=by
 unfold gc;rw[h,Bool.and_false,cond_false];cases Nat.ble st.heap.length n<;>rfl
theorem q4j {α:Type}{l l':List α}{x}(h:qC l l.length x=En l'):l'.length=l.length+1:=by
 unfold qC at h;split at h
 .cases h;simp
 .cases h
def B3 (s:HV)(e:GEv):Option (Int×HV):=
 cond (decide (e.number=qd .i64 ((s.ev.length:Int)+1)))
  (cond (decide (e.kind=([117,110,100,111]:aj)))
   (qa (f36 (decide ((s.lc:Int)=0)) 12) fun e1=>
   cond (decide (0<(s.lc:Int)))
    (qa (qm (s.cs.take s.lc) (max 0 (qd .i64 ((s.lc:Int)-1)))) fun x=>
    qa (f36 (decide (x.kind=([115,104,105,112]:aj))) 19) fun e2=>
    qa (f35 (En [e1,e2])) fun e3=>
    cond (decide (e3=0))
     (cond (decide (0<=qd .i64 ((s.lc:Int)-1)/\qd .i64 ((s.lc:Int)-1)<=(s.lc:Int)/\s.lc<=s.ls))
      (qa (qC s.ev s.ev.length e) fun ev=>En (0,{ s with ev:=ev,ve:=s.ve+1,lc:=(qd .i64 ((s.lc:Int)-1)).toNat,ls:=s.lc }))
      Ha)
     (En (e3,s)))
    (qa (f36 E6 19) fun e2=>qa (f35 (En [e1,e2])) fun e3=>cond (decide (e3=0)) Ha (En (e3,s))))
   (qa (qm (s.ss.take s.ls) (qd .i64 ((s.ls:Int)-1))) fun r=>
   qa (f129 r e) fun v=>
   cond (decide (v.2=0))
    (qa (qC s.cs s.lc e) fun cs=>qa (qC s.ss s.ls v.1) fun ss=>qa (qC s.ev s.ev.length e) fun ev=>
    En (0,{ ev:=ev,ve:=s.ve+1,cs:=cs,lc:=s.lc+1,vc:=s.vc+1,ss:=ss,ls:=s.ls+1,vs:=s.vs+1 }))
    (En (v.2,s))))
  (En (11,s))
theorem Zd:decide (((([]:List AVal).length:Nat):Int)=0)=true:=rfl
theorem zkb:decide ((0:Int)<((([]:List AVal).length:Nat):Int))=E6:=rfl
theorem j3f:decide ((0:Int)<((0:Nat):Int))=E6:=rfl
def dY:aw:=⟨0,Ha,Ha,Ha⟩
def B2 (e:GEv):Option (Int×Option HV):=
 cond (decide (e.number=qd .i64 1))
  (cond (decide (e.kind=([117,110,100,111]:aj)))
   (qa (f36 true 12) fun e1=>qa (f36 E6 19) fun e2=>qa (f35 (En [e1,e2])) fun e3=>cond (decide (e3=0)) Ha (En (e3,Ha)))
   (qa (f129 dY e) fun v=>
   cond (decide (v.2=0))
    (En (0,En { ev:=[e],ve:=0,cs:=[e],lc:=1,vc:=0,ss:=[dY,v.1],ls:=2,vs:=1 }))
    (En (v.2,Ha))))
  (En (11,Ha))
def tA (s:Option HV)(e:GEv):Option (Int×Option HV):=match s with
 |none=>B2 e
 |some s=>qa (B3 s e) fun q=>En (q.1,En q.2)
def rP (l:ak GEv)(x:Int×Option HV):Option ((Int×Option HV)⊕((Int×Int×Option HV)⊕(Int×Option HV))):=
 cond (decide (x.1<((l.getD []).length:Int)))
  (qa (qm (l.getD []) x.1) fun e=>
  qa (f41 e) fun c=>
  cond (decide (c=0))
   (qa (f46 e) fun e2=>
   qa (tA x.2 e2) fun q=>
   cond (decide (q.1=0))
    (En (.inl (qd .i64 (x.1+1),q.2)))
    (En (.inr (.inl (qd .i64 (x.1+1),q.1,q.2)))))
   (En (.inr (.inl (qd .i64 (x.1+1),c,x.2)))))
  (En (.inr (.inr x)))
def f27 (l:ak GEv):Option ((Int×Int)⊕Option HV):=
 cond (decide (1000<((l.getD []).length:Int)))
  (En (.inl (0,5)))
  (qa (bq (rP l) (0,Ha)) fun d=>match d with
  | .inl d=>En (.inl (d.1,d.2.1))
  | .inr d=>En (.inr d.2))
end Go.Z
namespace Go.Z
open Go Go.Abs Go.W
def OO:Option HV->Option aw
 |none=>En dY|some s=>qm (s.ss.take s.ls) (qd .i64 ((s.ls:Int)-1))
def f56 (l:ak GEv):Option (aw×Int×Int):=qa (f27 l) fun r=>match r with
 | .inl x=>cond (decide (x.2=0)) Ha (En (dY,x.1,x.2))
 | .inr o=>qa (OO o) fun r=>En (r,0,0)
end Go.Z
namespace Go.Z
open Go Go.Abs Go.W
def oO:Option HV->AVal
 |none=>.agg [Nl,Nl,.ay 4 0 1]|some v=>.agg [.ay 7 v.ve v.ev.length,.ay 5 v.vc v.lc,.ay 4 v.vs v.ls]
end Go.Z
namespace Go.Z
open Go Go.Abs Go.W
def iL:Option HV->AVal
 |none=>.agg [Nl,Nl,.ay 3 0 1]|some v=>.agg [.ay 6 v.ve v.ev.length,.ay 4 v.vc v.lc,.ay 3 v.vs v.ls]
end Go.Z
namespace Go.Z
open Go Go.Abs Go.W
def f15 (O:ak GEv)(J:Int):Option Bool:=
 qa (f51 O J) fun v1=>
 cond v1
  (qa (f8 O) fun v4=>
  En (decide (v4.2.2=0)))
  (En E6)
theorem W15 {O:ak GEv}{J:Int}{r}(h:f15 O J=En r):ae pr (X pr) 15 [sl 5 vev O,Iv J]=En (.bool r,E6):=by
 unfold f15 at h;refine zg c15 ?_
 repeat' first|(replace h:=qb h;obtain⟨d,g,h⟩:=h;with_reducible first|replace g:=W51 g|replace g:=W8 g|skip)|(replace h:=qc h;rcases h with⟨g,h⟩|⟨g,h⟩)
 all_goals (cases h<;>(simp only[go_sem,seval,c15, *];exact⟨_,rfl⟩))
end Go.Z
namespace Go.Z
open Go Go.Abs Go.W
def B7 (O:ak aj)(J:ak aj)(V:Int):Option (Int⊕(Unit⊕Int)):=
 cond (decide (V<((O.getD []).length:Int)))
  (qa (qm (O.getD []) V) fun dL=>
  qa (qm (J.getD []) V) fun fj=>
  cond (decide (dL=fj))
   (En (.inl (qd .i64 (V+1))))
   (En (.inr (.inl ()))))
  (En (.inr (.inr V)))
def QX (O:ak aj)(J:ak aj)(V:Int):bn:=⟨[(0,sl 1 jf O,E6),(1,sl 1 jf J,E6),(5,Iv V,E6)],[]⟩
def QY (O:ak aj)(J:ak aj):Unit⊕Int->jb×bn
 | .inl d=>(.ret,⟨[(4,.bool E6,E6)],[]⟩)| .inr d=>(.exit 0,⟨[(0,sl 1 jf O,E6),(1,sl 1 jf J,E6),(5,Iv d,E6),(14,.bool E6,E6)],[]⟩)
theorem j5p (O:ak aj)(J:ak aj)(V:Int)(r)(h:B7 O J V=En r):jy pr QZ (QX O J) (QY O J) V r:=by
 unfold B7 at h
 repeat' first|(replace h:=qb h;obtain⟨d,g,h⟩:=h)|(replace h:=qc h;rcases h with⟨g,h⟩|⟨g,h⟩)
 all_goals (cases h<;>((first|refine qu ?_|refine jz ?_);simp only[go_sem,seval,QZ,QX,jq,QY, *]<;>rfl))
theorem j5g (O:ak aj)(J:ak aj){V d}(h:bq (B7 O J) V=En d):X pr (.loop QZ) (QX O J V)=En (QY O J d):=z8 (j5p O J) h
def f24 (O:ak aj)(J:ak aj):Option Bool:=
 cond (decide (((O.getD []).length:Int)=((J.getD []).length:Int)))
  (qa (bq (B7 O J) 0) fun d20=>match d20 with
   | .inl d22=>
    En E6
   | .inr d23=>
    En true)
  (En E6)
theorem W24 {O J r}(h:f24 O J=En r):ae pr (X pr) 24 [sl 1 jf O,sl 1 jf J]=En (.bool r,E6):=by
 unfold f24 at h;refine zg c24 ?_
 repeat' first|(replace h:=qb h;obtain⟨d,g,h⟩:=h;with_reducible first|(replace g:=j5g O J g;rcases d with d|d<;>dsimp only[QX,QY,zr]at g h)|skip)|(replace h:=qc h;rcases h with⟨g,h⟩|⟨g,h⟩)
 all_goals (cases h<;>(simp only[go_sem,seval,c24, *];exact⟨_,rfl⟩))
end Go.Z
end
