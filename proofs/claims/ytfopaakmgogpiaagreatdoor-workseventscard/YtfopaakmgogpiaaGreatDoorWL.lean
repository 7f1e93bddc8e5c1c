/- Chapter 10. -/
import Derived.Test.YtfopaakmgogpiaaGreatDoorLZ
import Derived.Test.YtfopaakmgogpiaaGreatDoorVB
import Derived.Test.YtfopaakmgogpiaaGreatDoorV9
import Derived.Test.YtfopaakmgogpiaaGreatDoorW14
import Derived.Test.YtfopaakmgogpiaaGreatDoorW8
import Derived.Test.YtfopaakmgogpiaaGreatDoorW3
import Derived.Test.YtfopaakmgogpiaaGreatDoorW4
import Derived.Test.YtfopaakmgogpiaaGreatDoorAbsL
import Derived.Test.YtfopaakmgogpiaaGreatDoorCA
set_option linter.unusedVariables false
set_option linter.unusedSimpArgs false
set_option maxRecDepth 100000
set_option maxHeartbeats 4000000
namespace Go.Z
open Go Go.Abs Go.W
theorem j9j {a0:Option (List ql)}{a1:Int}{r}(h:f7 a0 a1=some r):jy prZ (X prZ) 7 [sl 5 vev a0,Iv a1]=some (.bool r,false):=atZ rfl rfl (W7 h) (by first|rfl|simp only[go_sem,seval])
theorem zfi {a0:Option (List ql)}{r}(h:f9 a0=some r):jy prZ (X prZ) 9 [sl 5 vev a0]=some (.tup [aR r.1,Iv r.2.1,Iv r.2.2],false):=atZ rfl rfl (W9 h) (by first|rfl|simp only[go_sem,seval])
theorem j47 {a0:Option (List ql)}{r}(h:f10 a0=some r):jy prZ (X prZ) 10 [sl 5 vev a0]=some (.tup [aR r.1,Iv r.2.1,Iv r.2.2],false):=atZ rfl rfl (W10 h) (by first|rfl|simp only[go_sem,seval])
theorem j0d {a0:ql}{r}(h:f11 a0=some r):jy prZ (X prZ) 11 [aE a0]=some (Iv r,false):=atZ rfl rfl (W11 h) (by first|rfl|simp only[go_sem,seval])
theorem j3r {a0:ql}{r}(h:f12 a0=some r):jy prZ (X prZ) 12 [aE a0]=some (Iv r,false):=atZ rfl rfl (W12 h) (by first|rfl|simp only[go_sem,seval])
theorem j4h {a0:qc}{a1:qc}{r}(h:f13 a0 a1=some r):jy prZ (X prZ) 13 [aR a0,aR a1]=some (.bool r,false):=atZ rfl rfl (W13 h) (by first|rfl|simp only[go_sem,seval])
theorem j5s {a0:qc}{r}(h:f14 a0=some r):jy prZ (X prZ) 14 [aR a0]=some (aR r,false):=atZ rfl rfl (W14 h) (by first|rfl|simp only[go_sem,seval])
theorem jxh {a0:Option (List ql)}{a1:ql}{r}(h:f15 a0 a1=some r):jy prZ (X prZ) 15 [sl 5 vev a0,aE a1]=some (Iv r,false):=atZ rfl rfl (W15 h) (by first|rfl|simp only[go_sem,seval])
theorem jyl {a0:Option (List ql)}{a1:ql}{r}(h:f16 a0 a1=some r):jy prZ (X prZ) 16 [sl 5 vev a0,aE a1]=some (Iv r,false):=atZ rfl rfl (W16 h) (by first|rfl|simp only[go_sem,seval])
noncomputable def f3 (a0:Option (List ql))(a1:ql):Option Bool:=
 jw (f7 a0 24) fun v1=>
 cond v1
  (jw (f7 (some [a1]) 1) fun v4=>
  cond v4
   (jw (f9 a0) fun v7=>
   jw (f10 a0) fun v9=>
   jw (f11 a1) fun v11=>
   jw (f12 a1) fun v13=>
   cond (decide (v11=v13))
    (cond (decide (v7.2.2=v9.2.2))
     (cond (decide (v7.2.1=v9.2.1))
      (jw (f14 v7.1) fun v18=>
      jw (f13 v18 v9.1) fun v20=>
      cond v20
       (jw (f15 a0 a1) fun v23=>
       jw (f16 a0 a1) fun v25=>
       cond (decide (v23=v25))
        (jw (E8) fun v28=>
        some v28)
        (some false))
       (some false))
      (some false))
     (some false))
    (some false))
   (jw (E8) fun v30=>
   some v30))
  (jw (E8) fun v32=>
  some v32)
theorem W3 {a0:Option (List ql)}{a1:ql}{r}(h:f3 a0 a1=some r):jy prZ (X prZ) 3 [sl 5 vev a0,aE a1]=some (.bool r,false):=by
 unfold f3 at h
 refine y7 c3 ?_
 repeat' first|(replace h:=jx h;obtain⟨d,g,h⟩:=h; (with_reducible first|replace g:=j9j g|replace g:=zfi g|replace g:=j47 g|replace g:=j0d g|replace g:=j3r g|replace g:=j5s g|replace g:=j4h g|replace g:=jxh g|replace g:=jyl g|replace g:=Q8 g|skip);try dsimp only[kc,qfs,List.map,kr,qae,z7,zr,vun,yb,vev,vsi,zz,qab,aE,aR,aU,aL,aP,aD]at g)|(replace h:=jz h;rcases h with⟨g,h⟩|⟨g,h⟩)|fail
 all_goals (cases h<;>(simp only[go_sem,seval,c3,*];exact⟨_,rfl⟩))
end Go.Z
