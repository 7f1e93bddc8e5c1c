/- Chapter 10. -/
import Derived.Test.YtfopaakmgogpiaaGreatDoorLZ
import Derived.Test.YtfopaakmgogpiaaGreatDoorVB
import Derived.Test.YtfopaakmgogpiaaGreatDoorV9
import Derived.Test.YtfopaakmgogpiaaGreatDoorW14
import Derived.Test.YtfopaakmgogpiaaGreatDoorW8
import Derived.Test.YtfopaakmgogpiaaGreatDoorW3
import Derived.Test.YtfopaakmgogpiaaGreatDoorW4
import Derived.Test.YtfopaakmgogpiaaGreatDoorAbsL
import Derived.Test.YtfopaakmgogpiaaGreatDoorCA
set_option linter.unusedVariables false
set_option linter.unusedSimpArgs false
set_option maxRecDepth 100000
set_option maxHeartbeats 4000000
open Option renaming some→I
open Bool renaming false→Ef
namespace Go.Z
open Go Go.Abs Go.W
theorem zb4 {a0:Option (List ql)}{a1:Int}{r}(h:f7 a0 a1=I r):jy gp (X gp) 7 [sl 5 vev a0,Iv a1]=I (.bool r,Ef):=vW rfl rfl (W7 h) (by first|rfl|simp only[go_sem,seval])
theorem zb7 {a0:Option (List ql)}{r}(h:f9 a0=I r):jy gp (X gp) 9 [sl 5 vev a0]=I (.aB [aR r.1,Iv r.2.1,Iv r.2.2],Ef):=vW rfl rfl (W9 h) (by first|rfl|simp only[go_sem,seval])
theorem j6j {a0:Option (List ql)}{r}(h:f10 a0=I r):jy gp (X gp) 10 [sl 5 vev a0]=I (.aB [aR r.1,Iv r.2.1,Iv r.2.2],Ef):=vW rfl rfl (W10 h) (by first|rfl|simp only[go_sem,seval])
theorem j5i {a0:ql}{r}(h:f11 a0=I r):jy gp (X gp) 11 [aE a0]=I (Iv r,Ef):=vW rfl rfl (NU h) (by first|rfl|simp only[go_sem,seval])
theorem j3p {a0:ql}{r}(h:f12 a0=I r):jy gp (X gp) 12 [aE a0]=I (Iv r,Ef):=vW rfl rfl (WG h) (by first|rfl|simp only[go_sem,seval])
theorem j0b {a0:qc}{a1:qc}{r}(h:f13 a0 a1=I r):jy gp (X gp) 13 [aR a0,aR a1]=I (.bool r,Ef):=vW rfl rfl (W13 h) (by first|rfl|simp only[go_sem,seval])
theorem j08 {a0:qc}{r}(h:f14 a0=I r):jy gp (X gp) 14 [aR a0]=I (aR r,Ef):=vW rfl rfl (W14 h) (by first|rfl|simp only[go_sem,seval])
theorem j4s {a0:Option (List ql)}{a1:ql}{r}(h:f15 a0 a1=I r):jy gp (X gp) 15 [sl 5 vev a0,aE a1]=I (Iv r,Ef):=vW rfl rfl (W15 h) (by first|rfl|simp only[go_sem,seval])
theorem jxx {a0:Option (List ql)}{a1:ql}{r}(h:f16 a0 a1=I r):jy gp (X gp) 16 [sl 5 vev a0,aE a1]=I (Iv r,Ef):=vW rfl rfl (W16 h) (by first|rfl|simp only[go_sem,seval])
noncomputable def f3 (a0:Option (List ql))(a1:ql):Option Bool:=
 jw (f7 a0 24) fun v1=>
 cond v1
  (jw (f7 (I [a1]) 1) fun v4=>
  cond v4
   (jw (f9 a0) fun v7=>
   jw (f10 a0) fun v9=>
   jw (f11 a1) fun v11=>
   jw (f12 a1) fun dU=>
   cond (decide (v11=dU))
    (cond (decide (v7.2.2=v9.2.2))
     (cond (decide (v7.2.1=v9.2.1))
      (jw (f14 v7.1) fun fP=>
      jw (f13 fP v9.1) fun v20=>
      cond v20
       (jw (f15 a0 a1) fun iY=>
       jw (f16 a0 a1) fun pz=>
       cond (decide (iY=pz))
        (jw (E8) fun v28=>
        I v28)
        (I Ef))
       (I Ef))
      (I Ef))
     (I Ef))
    (I Ef))
   (jw (E8) fun v30=>
   I v30))
  (jw (E8) fun jM=>
  I jM)
theorem W3 {a0:Option (List ql)}{a1:ql}{r}(h:f3 a0 a1=I r):jy gp (X gp) 3 [sl 5 vev a0,aE a1]=I (.bool r,Ef):=by
 unfold f3 at h
 refine y6 c3 ?_
 repeat' first|(replace h:=jx h;obtain⟨d,g,h⟩:=h; (with_reducible first|replace g:=zb4 g|replace g:=zb7 g|replace g:=j6j g|replace g:=j5i g|replace g:=j3p g|replace g:=j08 g|replace g:=j0b g|replace g:=j4s g|replace g:=jxx g|replace g:=Q8 g|skip);try dsimp only[y9,lF,List.map,kr,qae,z7,zr,bp,ya,vev,aS,zz,dp,aE,aR,aU,aL,aP,aD]at g)|(replace h:=jz h;rcases h with⟨g,h⟩|⟨g,h⟩)|fail
 all_goals (cases h<;>(simp only[go_sem,seval,c3, *];exact⟨_,rfl⟩))
end Go.Z
