/- Chapter 10. -/
import Derived.Test.YtfopaakmgogpiaaGreatDoorVB
set_option linter.unusedVariables false
set_option linter.unusedSimpArgs false
set_option maxRecDepth 100000
set_option maxHeartbeats 4000000
noncomputable section
open Option renaming some→I,none→El
open Bool renaming false→Eh
namespace Go.Z
open Go Go.Abs Go.W
def f70 (a0:Option (List ql))(a1:List UInt8):Option (qc×Int×Int):=
 jx (f9 a0) fun v1=>
 cond (decide (v1.2.2=0))
  (jx (f93 v1.1 a1) fun v4=>
  jx (f53 (decide (v4<0)) 10) fun v6=>
  I (v1.1,v4,v6))
  (I (⟨0,El,El,El⟩,0,v1.2.2))
theorem Wz {a0:Option (List ql)}{a1:List UInt8}{r}(h:f70 a0 a1=I r):jz pr (X pr) 70 [sl 5 vev a0,.str a1]=I (.az [aR r.1,Iv r.2.1,Iv r.2.2],Eh):=by
 unfold f70 at h
 refine yt Jq ?_
 repeat' first|(replace h:=jy h;obtain⟨d,g,h⟩:=h;with_reducible first|replace g:=W9 g|replace g:=wA g|replace g:=fB g|skip)|(replace h:=j6 h;rcases h with⟨g,h⟩|⟨g,h⟩)|fail
 all_goals (cases h<;>(simp only[go_sem,seval,Jq, *];exact⟨_,rfl⟩))
def f19 (a0:Option (List ql))(a1:List UInt8):Option ((Option (List (List UInt8)))×Int):=
 jx (f70 a0 a1) fun v1=>
 cond (decide (v1.2.2=0))
  (jx (zq (v1.1.units.getD []) v1.2.1) fun v4=>
  jx (f71 v4) fun v6=>
  I (v6.1,0))
  (I (El,v1.2.2))
theorem W19 {a0:Option (List ql)}{a1:List UInt8}{r}(h:f19 a0 a1=I r):jz pr (X pr) 19 [sl 5 vev a0,.str a1]=I (.az [sl 1 yp r.1,Iv r.2],Eh):=by
 unfold f19 at h
 refine yt Jr ?_
 repeat' first|(replace h:=jy h;obtain⟨d,g,h⟩:=h;with_reducible first|replace g:=Wz g|replace g:=W71 g|skip)|(replace h:=j6 h;rcases h with⟨g,h⟩|⟨g,h⟩)|fail
 all_goals (cases h<;>(simp only[go_sem,seval,Jr,zn, *];exact⟨_,rfl⟩))
def f20 (a0:Option (List ql))(a1:List UInt8):Option ((Option (List (List UInt8)))×Int):=
 jx (f9 a0) fun v1=>
 jx (f72 v1.1 a1) fun v3=>
 jx (f53 (decide (v3<0)) 10) fun v5=>
 jx (f51 (I [v1.2.2,v5])) fun v7=>
 cond (decide (v7=0))
  (jx (f73 v1.1 a1) fun v10=>
  I (v10.1,0))
  (I (El,v7))
theorem W20 {a0:Option (List ql)}{a1:List UInt8}{r}(h:f20 a0 a1=I r):jz pr (X pr) 20 [sl 5 vev a0,.str a1]=I (.az [sl 1 yp r.1,Iv r.2],Eh):=by
 unfold f20 at h
 refine yt Js ?_
 repeat' first|(replace h:=jy h;obtain⟨d,g,h⟩:=h; (with_reducible first|replace g:=W9 g|replace g:=Bl g|replace g:=fB g|replace g:=lK g|replace g:=W73 g|skip);try dsimp only[ki,jN,List.map,kn,yp,z8,zu,bf,y8,vev,aV,zz,dp,aE,aR,aU,aL,aP,aD]at g)|(replace h:=j6 h;rcases h with⟨g,h⟩|⟨g,h⟩)|fail
 all_goals (cases h<;>(simp only[go_sem,seval,Js, *];exact⟨_,rfl⟩))
def f21 (a0:Option (List ql))(a1:List UInt8):Option ((Option (List (List UInt8)))×Int):=
 jx (f70 a0 a1) fun v1=>
 cond (decide (v1.2.2=0))
  (jx (zq (v1.1.units.getD []) v1.2.1) fun v4=>
  jx (f74 v1.1 v4) fun v6=>
  I (v6.1,0))
  (I (El,v1.2.2))
theorem W21 {a0:Option (List ql)}{a1:List UInt8}{r}(h:f21 a0 a1=I r):jz pr (X pr) 21 [sl 5 vev a0,.str a1]=I (.az [sl 1 yp r.1,Iv r.2],Eh):=by
 unfold f21 at h
 refine yt Jt ?_
 repeat' first|(replace h:=jy h;obtain⟨d,g,h⟩:=h;with_reducible first|replace g:=Wz g|replace g:=W74 g|skip)|(replace h:=j6 h;rcases h with⟨g,h⟩|⟨g,h⟩)|fail
 all_goals (cases h<;>(simp only[go_sem,seval,Jt,zn, *];exact⟨_,rfl⟩))
def f22 (a0:Option (List ql))(a1:List UInt8):Option Int:=
 jx (f70 a0 a1) fun v1=>
 cond (decide (v1.2.2=0))
  (jx (zq (v1.1.units.getD []) v1.2.1) fun v4=>
  jx (f75 v1.1 v4) fun v6=>
  I v6)
  (I v1.2.2)
theorem W22 {a0:Option (List ql)}{a1:List UInt8}{r}(h:f22 a0 a1=I r):jz pr (X pr) 22 [sl 5 vev a0,.str a1]=I (Iv r,Eh):=by
 unfold f22 at h
 refine yt Ju ?_
 repeat' first|(replace h:=jy h;obtain⟨d,g,h⟩:=h;with_reducible first|replace g:=Wz g|replace g:=W75 g|skip)|(replace h:=j6 h;rcases h with⟨g,h⟩|⟨g,h⟩)|fail
 all_goals (cases h<;>(simp only[go_sem,seval,Ju,zn, *];exact⟨_,rfl⟩))
def f23 (a0:Option (List ql))(a1:List UInt8):Option (Int×Int):=
 jx (f9 a0) fun v1=>
 jx (f56 a1) fun v3=>
 jx (f53 (!v3) 8) fun v5=>
 jx (f51 (I [v1.2.2,v5])) fun v7=>
 cond (decide (v7=0))
  (jx (f76 v1.1 a1) fun v10=>
  I (v10,0))
  (I (0,v7))
theorem W23 {a0:Option (List ql)}{a1:List UInt8}{r}(h:f23 a0 a1=I r):jz pr (X pr) 23 [sl 5 vev a0,.str a1]=I (.az [Iv r.1,Iv r.2],Eh):=by
 unfold f23 at h
 refine yt Jv ?_
 repeat' first|(replace h:=jy h;obtain⟨d,g,h⟩:=h; (with_reducible first|replace g:=W9 g|replace g:=W56 g|replace g:=fB g|replace g:=lK g|replace g:=W76 g|skip);try dsimp only[ki,jN,List.map,kn,yp,z8,zu,bf,y8,vev,aV,zz,dp,aE,aR,aU,aL,aP,aD]at g)|(replace h:=j6 h;rcases h with⟨g,h⟩|⟨g,h⟩)|fail
 all_goals (cases h<;>(simp only[go_sem,seval,Jv, *];exact⟨_,rfl⟩))
end Go.Z
namespace Go.Z
open Go Go.Abs Go.W
def A8 (a0:Option (List (List UInt8)))(a1:Option (List (List UInt8)))(s0:Int):Option (Int⊕(Unit⊕Int)):=
 cond (decide (s0<((a0.getD []).length:Int)))
  (jx (zq (a0.getD []) s0) fun da=>
  jx (zq (a1.getD []) s0) fun dr=>
  cond (decide (da=dr))
   (I (.inl (j9 .i64 (s0+1))))
   (I (.inr (.inl ()))))
  (I (.inr (.inr s0)))
def Jw (a0:Option (List (List UInt8)))(a1:Option (List (List UInt8)))(s0:Int):qh:=⟨[(0,sl 1 yp a0,Eh),(1,sl 1 yp a1,Eh),(5,Iv s0,Eh)],[]⟩
def Jx (a0:Option (List (List UInt8)))(a1:Option (List (List UInt8))):Unit⊕Int→qo×qh
 | .inl d=>(.ret,⟨[(4,.bool Eh,Eh)],[]⟩)
 | .inr d=>(.exit 0,⟨[(0,sl 1 yp a0,Eh),(1,sl 1 yp a1,Eh),(5,Iv d,Eh),(14,.bool Eh,Eh)],[]⟩)
theorem j30 (a0:Option (List (List UInt8)))(a1:Option (List (List UInt8)))(s0:Int)(r)(h:A8 a0 a1 s0=I r):y5 pr Jy (Jw a0 a1) (Jx a0 a1) s0 r:=by
 unfold A8 at h
 repeat' first|(replace h:=jy h;obtain⟨d,g,h⟩:=h)|(replace h:=j6 h;rcases h with⟨g,h⟩|⟨g,h⟩)|fail
 all_goals (cases h<;>(first|(refine z6 ?_;simp only[go_sem,seval,Jy,Jw,zn,Jx, *]<;>rfl)|(refine yo ?_;simp only[go_sem,seval,Jy,Jw,zn,Jx, *]<;>rfl)))
theorem j3s (a0:Option (List (List UInt8)))(a1:Option (List (List UInt8))){s0:Int}{d}(h:bj (A8 a0 a1) s0=I d):X pr (.loop Jy) (Jw a0 a1 s0)=I (Jx a0 a1 d):=kl (j30 a0 a1) (fun d=>by rcases d with d|d<;>(intro hh;cases hh)) h
def f45 (a0:Option (List (List UInt8)))(a1:Option (List (List UInt8))):Option Bool:=
 cond (decide (((a0.getD []).length:Int)=((a1.getD []).length:Int)))
  (jx (bj (A8 a0 a1) 0) fun d20=>match d20 with
   | .inl d22=>
    I Eh
   | .inr d23=>
    I true)
  (I Eh)
theorem W45 {a0:Option (List (List UInt8))}{a1:Option (List (List UInt8))}{r}(h:f45 a0 a1=I r):jz pr (X pr) 45 [sl 1 yp a0,sl 1 yp a1]=I (.bool r,Eh):=by
 unfold f45 at h
 refine yt Ow ?_
 repeat' first|(replace h:=jy h;obtain⟨d,g,h⟩:=h;with_reducible first|(replace g:=j3s a0 a1 g;rcases d with d|d<;>dsimp only[Jw,Jx,ki]at g h)|skip)|(replace h:=j6 h;rcases h with⟨g,h⟩|⟨g,h⟩)|fail
 all_goals (cases h<;>(simp only[go_sem,seval,Ow, *];exact⟨_,rfl⟩))
def f34 (a0:Option (List (List UInt8)))(a1:Int)(a2:Option (List (List UInt8)))(a3:Int):Option Bool:=
 cond (decide (a3=0))
  (cond (decide (a1=a3))
   (jx (f45 a0 a2) fun v3=>
   I v3)
   (I Eh))
  (cond (decide (a1=a3))
   (jx (f45 a0 El) fun v6=>
   I v6)
   (I Eh))
theorem W34 {a0:Option (List (List UInt8))}{a1:Int}{a2:Option (List (List UInt8))}{a3:Int}{r}(h:f34 a0 a1 a2 a3=I r):jz pr (X pr) 34 [sl 1 yp a0,Iv a1,sl 1 yp a2,Iv a3]=I (.bool r,Eh):=by
 unfold f34 at h
 refine yt Jz ?_
 repeat' first|(replace h:=jy h;obtain⟨d,g,h⟩:=h; (with_reducible first|replace g:=W45 g|skip);try dsimp only[ki,jN,List.map,kn,yp,z8,zu,bf,y8,vev,aV,zz,dp,aE,aR,aU,aL,aP,aD]at g)|(replace h:=j6 h;rcases h with⟨g,h⟩|⟨g,h⟩)|fail
 all_goals (cases h<;>(simp only[go_sem,seval,Jz, *];exact⟨_,rfl⟩))
end Go.Z
end
