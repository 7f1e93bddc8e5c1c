/- Chapter 10. -/
import Derived.Test.YtfopaakmgogpiaaGreatDoorV3
import Derived.Test.YtfopaakmgogpiaaGreatDoorAbsL
import Derived.Test.YtfopaakmgogpiaaGreatDoorCA
set_option linter.unusedVariables false
set_option linter.unusedSimpArgs false
set_option maxRecDepth 100000
set_option maxHeartbeats 4000000
noncomputable section
namespace Go.Z
open Go Go.Abs Go.W
def qom (a1:List UInt8)(a2c0:Int)(a2c1vc0:List UInt8)(a2c2:List UInt8)(c0_0:Int)(c0_1:Option (List qj))(c0_2:Option (List qi))(c0_3:Option (List qf)):Option (Option (List qi)):=
 jw (f165 (⟨c0_0,c0_1,c0_2,c0_3⟩) a1) fun v1=>
 jw (jh8 c0_2 v1 a2c0 a2c1vc0 a2c2) fun v3=>
 some v3
theorem j1r {a1:List UInt8}{a2c0:Int}{a2c1vc0:List UInt8}{a2c2:List UInt8}{c0_0:Int}{c0_1:Option (List qj)}{c0_2:Option (List qi)}{c0_3:Option (List qf)}{x1:qn}{x2:qn}{x3:qn}{r}(h:qom a1 a2c0 a2c1vc0 a2c2 c0_0 c0_1 c0_2 c0_3=some r):zf pr (X pr) 169 [.ptr 0 0,.str a1,.fn (.func 170) [] [.vptr (Iv a2c0),.vptr (.fn (.func 167) [] [.vptr (.str a2c1vc0)]),.vptr (.str a2c2)]] [kR c0_0 c0_1 c0_2 c0_3,x1,x2,x3]=some (.tup [],false,[kR c0_0 c0_1 r c0_3,x1,x2,x3]):=by
 unfold qom at h
 rw[zd (show pr.fns 169=some c169 from rfl) (by simp)]
 repeat' first|(replace h:=jx h;obtain⟨d,g,h⟩:=h;with_reducible first|replace g:=qmc g|replace g:=jeg g|skip)|(replace h:=jz h;rcases h with⟨g,h⟩|⟨g,h⟩)|fail
 all_goals (cases h<;>(simp only[go_sem,seval,c169,*]<;>rfl))
def qtk (a1:List UInt8)(a2c0:qk)(a2c1vc0:qk)(c0_0:Int)(c0_1:Option (List qj))(c0_2:Option (List qi))(c0_3:Option (List qf)):Option (Option (List qi)):=
 jw (f165 (⟨c0_0,c0_1,c0_2,c0_3⟩) a1) fun v1=>
 jw (jh1 c0_2 v1 a2c0 a2c1vc0) fun v3=>
 some v3
theorem j1c {a1:List UInt8}{a2c0:qk}{a2c1vc0:qk}{c0_0:Int}{c0_1:Option (List qj)}{c0_2:Option (List qi)}{c0_3:Option (List qf)}{x1:qn}{x2:qn}{x3:qn}{r}(h:qtk a1 a2c0 a2c1vc0 c0_0 c0_1 c0_2 c0_3=some r):zf pr (X pr) 169 [.ptr 0 0,.str a1,.fn (.func 176) [] [.vptr (aT a2c0),.vptr (.fn (.func 174) [] [.vptr (aT a2c1vc0)])]] [kR c0_0 c0_1 c0_2 c0_3,x1,x2,x3]=some (.tup [],false,[kR c0_0 c0_1 r c0_3,x1,x2,x3]):=by
 unfold qtk at h
 obtain⟨v1,h2,h⟩:=jx h
 have wh2:jy pr (X pr) 165 [aG c0_0 c0_1 c0_2 c0_3,.str a1]=some (Iv v1,false):=qmc h2
 obtain⟨v3,h4,h⟩:=jx h
 have wh4:jy pr (X pr) 178 [sl 4 zr c0_2,Iv v1,.fn (.func 236) [] [.vptr (.fn (.func 176) [] [.vptr (aT a2c0),.vptr (.fn (.func 174) [] [.vptr (aT a2c1vc0)])])]]=some (sl 4 zr v3,false):=jfu h4
 have hr:v3=r:=Option.some.inj h
 subst hr
 rw[zd (show pr.fns 169=some c169 from rfl) (by simp)]
 simp only[go_sem,seval,c169,wh2,wh4]<;>rfl
def f105 (a1:ql)(c0_0:Int)(c0_1:Option (List qj))(c0_2:Option (List qi))(c0_3:Option (List qf)):Option (Int×(Option (List qj))×Bool):=
 jw (zo (a1.names.getD []) 0) fun v1=>
 jw (f72 (⟨c0_0,c0_1,c0_2,c0_3⟩) v1) fun v3=>
 jw (f53 (decide (0≤v3)) 9) fun v5=>
 jw (zo (a1.values.getD []) 1) fun v7=>
 jw (f52 v7 1 10000) fun v9=>
 jw (f53 (decide (64≤((c0_1.getD []).length:Int))) 5) fun v11=>
 jw (f51 (some [v5,v9,v11])) fun v13=>
 cond (decide (v13=0))
  (jw (zo (a1.names.getD []) 1) fun v16=>
  jw (f164 c0_1 (⟨v1,v16,v7,v7,false⟩)) fun v18=>
  some (0,v18,true))
  (some (v13,c0_1,false))
theorem zcp {a1:ql}{c0_0:Int}{c0_1:Option (List qj)}{c0_2:Option (List qi)}{c0_3:Option (List qf)}{x1:qn}{x2:qn}{x3:qn}{r}(h:f105 a1 c0_0 c0_1 c0_2 c0_3=some r):zf pr (X pr) 105 [.ptr 0 0,aE a1] [kR c0_0 c0_1 c0_2 c0_3,x1,x2,x3]=some (Iv r.1,false,[kS c0_0 r.2.1 r.2.2 c0_2 false c0_3 false,x1,x2,x3]):=by
 unfold f105 at h
 rw[zd (show pr.fns 105=some c105 from rfl) (by simp)]
 repeat' first|(replace h:=jx h;obtain⟨d,g,h⟩:=h; (with_reducible first|replace g:=W72 g|replace g:=W53 g|replace g:=W52 g|replace g:=W51 g|replace g:=zf0 g|skip);try dsimp only[kc,qfs,List.map,kr,qae,z7,zr,vun,yb,vev,vsi,zz,qab,aE,aR,aU,aL,aP,aD]at g)|(replace h:=jz h;rcases h with⟨g,h⟩|⟨g,h⟩)|fail
 all_goals (cases h<;>(simp only[go_sem,seval,c105,zn,*]<;>rfl))
def f106 (a1:ql)(c0_0:Int)(c0_1:Option (List qj))(c0_2:Option (List qi))(c0_3:Option (List qf)):Option (Int×(Option (List qi))×Bool):=
 jw (zo (a1.names.getD []) 0) fun v1=>
 jw (f165 (⟨c0_0,c0_1,c0_2,c0_3⟩) v1) fun v3=>
 jw (f53 (decide (0≤v3)) 9) fun v5=>
 jw (f53 (decide (16≤((c0_2.getD []).length:Int))) 5) fun v7=>
 jw (f51 (some [v5,v7])) fun v9=>
 cond (decide (v9=0))
  (jw (f166 c0_2 (⟨v1,none,none,none⟩)) fun v12=>
  some (0,v12,true))
  (some (v9,c0_2,false))
theorem zcc {a1:ql}{c0_0:Int}{c0_1:Option (List qj)}{c0_2:Option (List qi)}{c0_3:Option (List qf)}{x1:qn}{x2:qn}{x3:qn}{r}(h:f106 a1 c0_0 c0_1 c0_2 c0_3=some r):zf pr (X pr) 106 [.ptr 0 0,aE a1] [kR c0_0 c0_1 c0_2 c0_3,x1,x2,x3]=some (Iv r.1,false,[kS c0_0 c0_1 false r.2.1 r.2.2 c0_3 false,x1,x2,x3]):=by
 unfold f106 at h
 rw[zd (show pr.fns 106=some c106 from rfl) (by simp)]
 repeat' first|(replace h:=jx h;obtain⟨d,g,h⟩:=h; (with_reducible first|replace g:=qmc g|replace g:=W53 g|replace g:=W51 g|replace g:=zej g|skip);try dsimp only[kc,qfs,List.map,kr,qae,z7,zr,vun,yb,vev,vsi,zz,qab,aE,aR,aU,aL,aP,aD]at g)|(replace h:=jz h;rcases h with⟨g,h⟩|⟨g,h⟩)|fail
 all_goals (cases h<;>(simp only[go_sem,seval,c106,zn,*]<;>rfl))
def f107 (a1:ql)(c0_0:Int)(c0_1:Option (List qj))(c0_2:Option (List qi))(c0_3:Option (List qf)):Option (Int×(Option (List qi))):=
 jw (zo (a1.names.getD []) 1) fun v1=>
 jw (zo (a1.values.getD []) 1) fun v3=>
 jw (zo (a1.names.getD []) 0) fun v5=>
 jw (f165 (⟨c0_0,c0_1,c0_2,c0_3⟩) v5) fun v7=>
 jw (zo (c0_2.getD []) v7) fun v9=>
 jw (f52 v3 0 10000) fun v11=>
 cond (decide (0<v3))
  (jw (qw7 v9.dn v1) fun v14=>
  cond v14
   (jw (f53 false 5) fun v17=>
   jw (f51 (some [v11,v17])) fun v19=>
   cond (decide (v19=0))
    (jw (qom v5 v3 v1 v1 c0_0 c0_1 c0_2 c0_3) fun v22=>
    some (0,v22))
    (some (v19,c0_2)))
   (jw (f53 (decide (16≤((v9.dn.getD []).length:Int))) 5) fun v24=>
   jw (f51 (some [v11,v24])) fun v26=>
   cond (decide (v26=0))
    (jw (qom v5 v3 v1 v1 c0_0 c0_1 c0_2 c0_3) fun v29=>
    some (0,v29))
    (some (v26,c0_2))))
  (jw (f53 false 5) fun v31=>
  jw (f51 (some [v11,v31])) fun v33=>
  cond (decide (v33=0))
   (jw (qom v5 v3 v1 v1 c0_0 c0_1 c0_2 c0_3) fun v36=>
   some (0,v36))
   (some (v33,c0_2)))
theorem j9a {a1:ql}{c0_0:Int}{c0_1:Option (List qj)}{c0_2:Option (List qi)}{c0_3:Option (List qf)}{x1:qn}{x2:qn}{x3:qn}{r}(h:f107 a1 c0_0 c0_1 c0_2 c0_3=some r):zf pr (X pr) 107 [.ptr 0 0,aE a1] [kR c0_0 c0_1 c0_2 c0_3,x1,x2,x3]=some (Iv r.1,false,[kR c0_0 c0_1 r.2 c0_3,x1,x2,x3]):=by
 unfold f107 at h
 rw[zd (show pr.fns 107=some c107 from rfl) (by simp)]
 repeat' first|(replace h:=jx h;obtain⟨d,g,h⟩:=h; (with_reducible first|replace g:=qmc g|replace g:=W52 g|replace g:=j4t g|replace g:=W53 g|replace g:=W51 g|replace g:=j1r (x1:=x1) (x2:=x2) (x3:=x3) g|skip);try dsimp only[kc,qfs,List.map,kr,qae,z7,zr,vun,yb,vev,vsi,zz,qab,aE,aR,aU,aL,aP,aD]at g)|(replace h:=jz h;rcases h with⟨g,h⟩|⟨g,h⟩)|fail
 all_goals (cases h<;>(simp only[go_sem,seval,c107,zn,*]<;>rfl))
def f108 (a1:ql)(c0_0:Int)(c0_1:Option (List qj))(c0_2:Option (List qi))(c0_3:Option (List qf)):Option (Int×(Option (List qi))):=
 jw (zo (a1.names.getD []) 1) fun v1=>
 jw (zo (a1.values.getD []) 1) fun v3=>
 jw (zo (a1.values.getD []) 2) fun v5=>
 jw (zo (a1.names.getD []) 0) fun v7=>
 jw (f165 (⟨c0_0,c0_1,c0_2,c0_3⟩) v7) fun v9=>
 jw (zo (c0_2.getD []) v9) fun v11=>
 jw (f53 (decide (v5<v3)) 11) fun v13=>
 jw (qws v11.dt (⟨v1,v3,v5⟩)) fun v15=>
 cond v15
  (jw (f53 false 5) fun v18=>
  jw (f51 (some [v13,v18])) fun v20=>
  cond (decide (v20=0))
   (jw (qtk v7 (⟨v1,v3,v5⟩) (⟨v1,v3,v5⟩) c0_0 c0_1 c0_2 c0_3) fun v23=>
   some (0,v23))
   (some (v20,c0_2)))
  (jw (f53 (decide (16≤((v11.dt.getD []).length:Int))) 5) fun v25=>
  jw (f51 (some [v13,v25])) fun v27=>
  cond (decide (v27=0))
   (jw (qtk v7 (⟨v1,v3,v5⟩) (⟨v1,v3,v5⟩) c0_0 c0_1 c0_2 c0_3) fun v30=>
   some (0,v30))
   (some (v27,c0_2)))
theorem zaw {a1:ql}{c0_0:Int}{c0_1:Option (List qj)}{c0_2:Option (List qi)}{c0_3:Option (List qf)}{x1:qn}{x2:qn}{x3:qn}{r}(h:f108 a1 c0_0 c0_1 c0_2 c0_3=some r):zf pr (X pr) 108 [.ptr 0 0,aE a1] [kR c0_0 c0_1 c0_2 c0_3,x1,x2,x3]=some (Iv r.1,false,[kR c0_0 c0_1 r.2 c0_3,x1,x2,x3]):=by
 unfold f108 at h
 rw[zd (show pr.fns 108=some c108 from rfl) (by simp)]
 repeat' first|(replace h:=jx h;obtain⟨d,g,h⟩:=h; (with_reducible first|replace g:=qmc g|replace g:=W53 g|replace g:=jzf g|replace g:=W51 g|replace g:=j1c (x1:=x1) (x2:=x2) (x3:=x3) g|skip);try dsimp only[kc,qfs,List.map,kr,qae,z7,zr,vun,yb,vev,vsi,zz,qab,aE,aR,aU,aL,aP,aD]at g)|(replace h:=jz h;rcases h with⟨g,h⟩|⟨g,h⟩)|fail
 all_goals (cases h<;>(simp only[go_sem,seval,c108,zn,*]<;>rfl))
def f109 (a1:ql)(c0_0:Int)(c0_1:Option (List qj))(c0_2:Option (List qi))(c0_3:Option (List qf)):Option (Int×(Option (List qi))):=
 jw (zo (a1.names.getD []) 0) fun v1=>
 jw (f165 (⟨c0_0,c0_1,c0_2,c0_3⟩) v1) fun v3=>
 jw (zo (c0_2.getD []) v3) fun v5=>
 jw (f53 (decide (((v5.dn.getD []).length:Int)=0)) 12) fun v7=>
 jw (f53 (decide (100≤((v5.docs.getD []).length:Int))) 5) fun v9=>
 jw (f51 (some [v7,v9])) fun v11=>
 cond (decide (v11=0))
  (jw (q8i c0_2 v3) fun v14=>
  some (0,v14))
  (some (v11,c0_2))
theorem zab {a1:ql}{c0_0:Int}{c0_1:Option (List qj)}{c0_2:Option (List qi)}{c0_3:Option (List qf)}{x1:qn}{x2:qn}{x3:qn}{r}(h:f109 a1 c0_0 c0_1 c0_2 c0_3=some r):zf pr (X pr) 109 [.ptr 0 0,aE a1] [kR c0_0 c0_1 c0_2 c0_3,x1,x2,x3]=some (Iv r.1,false,[kR c0_0 c0_1 r.2 c0_3,x1,x2,x3]):=by
 unfold f109 at h
 rw[zd (show pr.fns 109=some c109 from rfl) (by simp)]
 repeat' first|(replace h:=jx h;obtain⟨d,g,h⟩:=h; (with_reducible first|replace g:=qmc g|replace g:=W53 g|replace g:=W51 g|replace g:=jew g|skip);try dsimp only[kc,qfs,List.map,kr,qae,z7,zr,vun,yb,vev,vsi,zz,qab,aE,aR,aU,aL,aP,aD]at g)|(replace h:=jz h;rcases h with⟨g,h⟩|⟨g,h⟩)|fail
 all_goals (cases h<;>(simp only[go_sem,seval,c109,zn,*]<;>rfl))
def f110 (a1:ql)(c0_0:Int)(c0_1:Option (List qj))(c0_2:Option (List qi))(c0_3:Option (List qf)):Option (Int×(Option (List qf))×Bool):=
 jw (zo (a1.names.getD []) 1) fun v1=>
 jw (f165 (⟨c0_0,c0_1,c0_2,c0_3⟩) v1) fun v3=>
 jw (zo (c0_2.getD []) v3) fun v5=>
 jw (f182 v5) fun v7=>
 jw (zo (a1.names.getD []) 0) fun v9=>
 jw (f93 (⟨c0_0,c0_1,c0_2,c0_3⟩) v9) fun v11=>
 jw (f53 (decide (0≤v11)) 9) fun v13=>
 jw (f53 (decide (v7=0)) 32) fun v15=>
 jw (f53 (decide (256≤((c0_3.getD []).length:Int))) 5) fun v17=>
 jw (f51 (some [v13,v15,v17])) fun v19=>
 cond (decide (v19=0))
  (jw (f183 c0_3 (⟨v9,v1,v7,none,none,[],false,0⟩)) fun v22=>
  some (0,v22,true))
  (some (v19,c0_3,false))
theorem zdt {a1:ql}{c0_0:Int}{c0_1:Option (List qj)}{c0_2:Option (List qi)}{c0_3:Option (List qf)}{x1:qn}{x2:qn}{x3:qn}{r}(h:f110 a1 c0_0 c0_1 c0_2 c0_3=some r):zf pr (X pr) 110 [.ptr 0 0,aE a1] [kR c0_0 c0_1 c0_2 c0_3,x1,x2,x3]=some (Iv r.1,false,[kS c0_0 c0_1 false c0_2 false r.2.1 r.2.2,x1,x2,x3]):=by
 unfold f110 at h
 rw[zd (show pr.fns 110=some c110 from rfl) (by simp)]
 repeat' first|(replace h:=jx h;obtain⟨d,g,h⟩:=h; (with_reducible first|replace g:=qmc g|replace g:=jnr g|replace g:=W93 g|replace g:=W53 g|replace g:=W51 g|replace g:=zb9 g|skip);try dsimp only[kc,qfs,List.map,kr,qae,z7,zr,vun,yb,vev,vsi,zz,qab,aE,aR,aU,aL,aP,aD]at g)|(replace h:=jz h;rcases h with⟨g,h⟩|⟨g,h⟩)|fail
 all_goals (cases h<;>(simp only[go_sem,seval,c110,zn,*]<;>rfl))
def f112 (a1:ql)(c0_0:Int)(c0_1:Option (List qj))(c0_2:Option (List qi))(c0_3:Option (List qf)):Option (Int×(Option (List qf))):=
 jw (zo (a1.names.getD []) 0) fun v1=>
 jw (f93 (⟨c0_0,c0_1,c0_2,c0_3⟩) v1) fun v3=>
 jw (zo (c0_3.getD []) v3) fun v5=>
 jw (f134 (⟨c0_0,c0_1,c0_2,c0_3⟩) v5) fun v7=>
 jw (qwd v7.tests a1) fun v9=>
 jw (f53 v5.shipped 21) fun v11=>
 jw (f53 (!v9) 7) fun v13=>
 jw (f53 (decide (64≤((v5.results.getD []).length:Int))) 5) fun v15=>
 jw (f51 (some [v11,v13,v15])) fun v17=>
 cond (decide (v17=0))
  (jw (jhn c0_3 v3 a1) fun v20=>
  some (0,v20))
  (some (v17,c0_3))
theorem zdb {a1:ql}{c0_0:Int}{c0_1:Option (List qj)}{c0_2:Option (List qi)}{c0_3:Option (List qf)}{x1:qn}{x2:qn}{x3:qn}{r}(h:f112 a1 c0_0 c0_1 c0_2 c0_3=some r):zf pr (X pr) 112 [.ptr 0 0,aE a1] [kR c0_0 c0_1 c0_2 c0_3,x1,x2,x3]=some (Iv r.1,false,[kR c0_0 c0_1 c0_2 r.2,x1,x2,x3]):=by
 unfold f112 at h
 rw[zd (show pr.fns 112=some c112 from rfl) (by simp)]
 repeat' first|(replace h:=jx h;obtain⟨d,g,h⟩:=h; (with_reducible first|replace g:=W93 g|replace g:=q7g g|replace g:=j0i g|replace g:=W53 g|replace g:=W51 g|replace g:=jfp g|skip);try dsimp only[kc,qfs,List.map,kr,qae,z7,zr,vun,yb,vev,vsi,zz,qab,aE,aR,aU,aL,aP,aD]at g)|(replace h:=jz h;rcases h with⟨g,h⟩|⟨g,h⟩)|fail
 all_goals (cases h<;>(simp only[go_sem,seval,c112,zn,*]<;>rfl))
def f113 (a1:ql)(c0_0:Int)(c0_1:Option (List qj))(c0_2:Option (List qi))(c0_3:Option (List qf)):Option (Int×(Option (List qf))):=
 jw (zo (a1.names.getD []) 0) fun v1=>
 jw (f93 (⟨c0_0,c0_1,c0_2,c0_3⟩) v1) fun v3=>
 jw (zo (c0_3.getD []) v3) fun v5=>
 jw (f140 (⟨c0_0,c0_1,c0_2,c0_3⟩) v5) fun v7=>
 jw (f53 v5.shipped 21) fun v9=>
 jw (f53 (decide (v5.version=v7)) 32) fun v11=>
 jw (f51 (some [v9,v11])) fun v13=>
 cond (decide (v13=0))
  (jw (ji1 c0_3 v3 v7) fun v16=>
  some (0,v16))
  (some (v13,c0_3))
theorem zez {a1:ql}{c0_0:Int}{c0_1:Option (List qj)}{c0_2:Option (List qi)}{c0_3:Option (List qf)}{x1:qn}{x2:qn}{x3:qn}{r}(h:f113 a1 c0_0 c0_1 c0_2 c0_3=some r):zf pr (X pr) 113 [.ptr 0 0,aE a1] [kR c0_0 c0_1 c0_2 c0_3,x1,x2,x3]=some (Iv r.1,false,[kR c0_0 c0_1 c0_2 r.2,x1,x2,x3]):=by
 unfold f113 at h
 rw[zd (show pr.fns 113=some c113 from rfl) (by simp)]
 repeat' first|(replace h:=jx h;obtain⟨d,g,h⟩:=h; (with_reducible first|replace g:=W93 g|replace g:=juq g|replace g:=W53 g|replace g:=W51 g|replace g:=jfm g|skip);try dsimp only[kc,qfs,List.map,kr,qae,z7,zr,vun,yb,vev,vsi,zz,qab,aE,aR,aU,aL,aP,aD]at g)|(replace h:=jz h;rcases h with⟨g,h⟩|⟨g,h⟩)|fail
 all_goals (cases h<;>(simp only[go_sem,seval,c113,zn,*]<;>rfl))
def f114 (a1:ql)(c0_0:Int)(c0_1:Option (List qj))(c0_2:Option (List qi))(c0_3:Option (List qf)):Option (Int×(Option (List qf))):=
 jw (zo (a1.names.getD []) 0) fun v1=>
 jw (f93 (⟨c0_0,c0_1,c0_2,c0_3⟩) v1) fun v3=>
 jw (zo (a1.names.getD []) 1) fun v5=>
 jw (f93 (⟨c0_0,c0_1,c0_2,c0_3⟩) v5) fun v7=>
 jw (zo (c0_3.getD []) v3) fun v9=>
 jw (zo (c0_3.getD []) v7) fun v11=>
 jw (f53 (decide (v3=v7)) 9) fun v13=>
 cond (decide (v9.product=v11.product))
  (jw (f53 (!decide (v9.version=v11.version)) 30) fun v16=>
  cond v9.shipped
   (jw (f53 true 21) fun v19=>
   cond (decide (v9.partner=[]))
    (jw (f53 (!decide (v11.partner=[])) 35) fun v22=>
    jw (f51 (some [v13,v16,v19,v22])) fun v24=>
    cond (decide (v24=0))
     (jw (qmb c0_3 v3 v11) fun v27=>
     jw (qmj v27 v7 (⟨v9.name,v9.product,v9.version,v9.uses,v9.results,v9.partner,true,v9.complaints⟩)) fun v29=>
     some (0,v29))
     (some (v24,c0_3)))
    (jw (f53 true 35) fun v31=>
    jw (f51 (some [v13,v16,v19,v31])) fun v33=>
    cond (decide (v33=0))
     (jw (qmb c0_3 v3 v11) fun v36=>
     jw (qmj v36 v7 (⟨v9.name,v9.product,v9.version,v9.uses,v9.results,v9.partner,true,v9.complaints⟩)) fun v38=>
     some (0,v38))
     (some (v33,c0_3))))
   (jw (f53 v11.shipped 21) fun v40=>
   cond (decide (v9.partner=[]))
    (jw (f53 (!decide (v11.partner=[])) 35) fun v43=>
    jw (f51 (some [v13,v16,v40,v43])) fun v45=>
    cond (decide (v45=0))
     (jw (qmb c0_3 v3 v11) fun v48=>
     jw (qmj v48 v7 (⟨v9.name,v9.product,v9.version,v9.uses,v9.results,v9.partner,false,v9.complaints⟩)) fun v50=>
     some (0,v50))
     (some (v45,c0_3)))
    (jw (f53 true 35) fun v52=>
    jw (f51 (some [v13,v16,v40,v52])) fun v54=>
    cond (decide (v54=0))
     (jw (qmb c0_3 v3 v11) fun v57=>
     jw (qmj v57 v7 (⟨v9.name,v9.product,v9.version,v9.uses,v9.results,v9.partner,false,v9.complaints⟩)) fun v59=>
     some (0,v59))
     (some (v54,c0_3)))))
  (jw (f53 true 30) fun v61=>
  cond v9.shipped
   (jw (f53 true 21) fun v64=>
   cond (decide (v9.partner=[]))
    (jw (f53 (!decide (v11.partner=[])) 35) fun v67=>
    jw (f51 (some [v13,v61,v64,v67])) fun v69=>
    cond (decide (v69=0))
     (jw (qmb c0_3 v3 v11) fun v72=>
     jw (qmj v72 v7 (⟨v9.name,v9.product,v9.version,v9.uses,v9.results,v9.partner,true,v9.complaints⟩)) fun v74=>
     some (0,v74))
     (some (v69,c0_3)))
    (jw (f53 true 35) fun v76=>
    jw (f51 (some [v13,v61,v64,v76])) fun v78=>
    cond (decide (v78=0))
     (jw (qmb c0_3 v3 v11) fun v81=>
     jw (qmj v81 v7 (⟨v9.name,v9.product,v9.version,v9.uses,v9.results,v9.partner,true,v9.complaints⟩)) fun v83=>
     some (0,v83))
     (some (v78,c0_3))))
   (jw (f53 v11.shipped 21) fun v85=>
   cond (decide (v9.partner=[]))
    (jw (f53 (!decide (v11.partner=[])) 35) fun v88=>
    jw (f51 (some [v13,v61,v85,v88])) fun v90=>
    cond (decide (v90=0))
     (jw (qmb c0_3 v3 v11) fun v93=>
     jw (qmj v93 v7 (⟨v9.name,v9.product,v9.version,v9.uses,v9.results,v9.partner,false,v9.complaints⟩)) fun v95=>
     some (0,v95))
     (some (v90,c0_3)))
    (jw (f53 true 35) fun v97=>
    jw (f51 (some [v13,v61,v85,v97])) fun v99=>
    cond (decide (v99=0))
     (jw (qmb c0_3 v3 v11) fun v102=>
     jw (qmj v102 v7 (⟨v9.name,v9.product,v9.version,v9.uses,v9.results,v9.partner,false,v9.complaints⟩)) fun v104=>
     some (0,v104))
     (some (v99,c0_3)))))
theorem zc4 {a1:ql}{c0_0:Int}{c0_1:Option (List qj)}{c0_2:Option (List qi)}{c0_3:Option (List qf)}{x1:qn}{x2:qn}{x3:qn}{r}(h:f114 a1 c0_0 c0_1 c0_2 c0_3=some r):zf pr (X pr) 114 [.ptr 0 0,aE a1] [kR c0_0 c0_1 c0_2 c0_3,x1,x2,x3]=some (Iv r.1,false,[kR c0_0 c0_1 c0_2 r.2,x1,x2,x3]):=by
 unfold f114 at h
 rw[zd (show pr.fns 114=some c114 from rfl) (by simp)]
 repeat' first|(replace h:=jx h;obtain⟨d,g,h⟩:=h; (with_reducible first|replace g:=W93 g|replace g:=W53 g|replace g:=W51 g|replace g:=jgq g|replace g:=jey g|skip);try dsimp only[kc,qfs,List.map,kr,qae,z7,zr,vun,yb,vev,vsi,zz,qab,aE,aR,aU,aL,aP,aD]at g)|(replace h:=jz h;rcases h with⟨g,h⟩|⟨g,h⟩)|fail
 all_goals (cases h<;>(simp only[go_sem,seval,c114,zn,*]<;>rfl))
def f115 (a1:ql)(c0_0:Int)(c0_1:Option (List qj))(c0_2:Option (List qi))(c0_3:Option (List qf)):Option (Int×(Option (List qj))):=
 jw (zo (a1.names.getD []) 0) fun v1=>
 jw (f72 (⟨c0_0,c0_1,c0_2,c0_3⟩) v1) fun v3=>
 jw (zo (c0_1.getD []) v3) fun v5=>
 cond v5.held
  (some (34,c0_1))
  (jw (ji6 c0_1 v3) fun v8=>
  some (0,v8))
theorem zac {a1:ql}{c0_0:Int}{c0_1:Option (List qj)}{c0_2:Option (List qi)}{c0_3:Option (List qf)}{x1:qn}{x2:qn}{x3:qn}{r}(h:f115 a1 c0_0 c0_1 c0_2 c0_3=some r):zf pr (X pr) 115 [.ptr 0 0,aE a1] [kR c0_0 c0_1 c0_2 c0_3,x1,x2,x3]=some (Iv r.1,false,[kR c0_0 r.2 c0_2 c0_3,x1,x2,x3]):=by
 unfold f115 at h
 rw[zd (show pr.fns 115=some c115 from rfl) (by simp)]
 repeat' first|(replace h:=jx h;obtain⟨d,g,h⟩:=h;with_reducible first|replace g:=W72 g|replace g:=jeq g|skip)|(replace h:=jz h;rcases h with⟨g,h⟩|⟨g,h⟩)|fail
 all_goals (cases h<;>(simp only[go_sem,seval,c115,zn,*]<;>rfl))
def f116 (a1:ql)(c0_0:Int)(c0_1:Option (List qj))(c0_2:Option (List qi))(c0_3:Option (List qf)):Option (Int×(Option (List qj))):=
 jw (zo (a1.names.getD []) 0) fun v1=>
 jw (f72 (⟨c0_0,c0_1,c0_2,c0_3⟩) v1) fun v3=>
 jw (zo (c0_1.getD []) v3) fun v5=>
 cond v5.held
  (jw (jfo c0_1 v3) fun v8=>
  some (0,v8))
  (some (20,c0_1))
theorem zfj {a1:ql}{c0_0:Int}{c0_1:Option (List qj)}{c0_2:Option (List qi)}{c0_3:Option (List qf)}{x1:qn}{x2:qn}{x3:qn}{r}(h:f116 a1 c0_0 c0_1 c0_2 c0_3=some r):zf pr (X pr) 116 [.ptr 0 0,aE a1] [kR c0_0 c0_1 c0_2 c0_3,x1,x2,x3]=some (Iv r.1,false,[kR c0_0 r.2 c0_2 c0_3,x1,x2,x3]):=by
 unfold f116 at h
 rw[zd (show pr.fns 116=some c116 from rfl) (by simp)]
 repeat' first|(replace h:=jx h;obtain⟨d,g,h⟩:=h;with_reducible first|replace g:=W72 g|replace g:=jfe g|skip)|(replace h:=jz h;rcases h with⟨g,h⟩|⟨g,h⟩)|fail
 all_goals (cases h<;>(simp only[go_sem,seval,c116,zn,*]<;>rfl))
def f118 (a1:ql)(c0_0:Int)(c0_1:Option (List qj))(c0_2:Option (List qi))(c0_3:Option (List qf)):Option (Int×(Option (List qf))):=
 jw (zo (a1.names.getD []) 0) fun v1=>
 jw (f93 (⟨c0_0,c0_1,c0_2,c0_3⟩) v1) fun v3=>
 jw (zo (c0_3.getD []) v3) fun v5=>
 cond v5.shipped
  (jw (ji9 c0_3 v3) fun v8=>
  some (0,v8))
  (some (20,c0_3))
theorem zfq {a1:ql}{c0_0:Int}{c0_1:Option (List qj)}{c0_2:Option (List qi)}{c0_3:Option (List qf)}{x1:qn}{x2:qn}{x3:qn}{r}(h:f118 a1 c0_0 c0_1 c0_2 c0_3=some r):zf pr (X pr) 118 [.ptr 0 0,aE a1] [kR c0_0 c0_1 c0_2 c0_3,x1,x2,x3]=some (Iv r.1,false,[kR c0_0 c0_1 c0_2 r.2,x1,x2,x3]):=by
 unfold f118 at h
 rw[zd (show pr.fns 118=some c118 from rfl) (by simp)]
 repeat' first|(replace h:=jx h;obtain⟨d,g,h⟩:=h;with_reducible first|replace g:=W93 g|replace g:=jfz g|skip)|(replace h:=jz h;rcases h with⟨g,h⟩|⟨g,h⟩)|fail
 all_goals (cases h<;>(simp only[go_sem,seval,c118,zn,*]<;>rfl))
end Go.Z
namespace Go.Z
open Go Go.Abs Go.W
def f111 (a1:ql)(c0_0:Int)(c0_1:Option (List qj))(c0_2:Option (List qi))(c0_3:Option (List qf)):Option (Int×(Option (List qj))×(Option (List qf))):=
 jw (zo (a1.names.getD []) 0) fun v1=>
 jw (f93 (⟨c0_0,c0_1,c0_2,c0_3⟩) v1) fun v3=>
 jw (zo (a1.names.getD []) 1) fun v5=>
 jw (f72 (⟨c0_0,c0_1,c0_2,c0_3⟩) v5) fun v7=>
 jw (zo (a1.values.getD []) 1) fun v9=>
 jw (zo (c0_3.getD []) v3) fun v11=>
 jw (zo (c0_1.getD []) v7) fun v13=>
 jw (f134 (⟨c0_0,c0_1,c0_2,c0_3⟩) v11) fun v15=>
 jw (qya v15.needs v13) fun v17=>
 jw (f53 v11.shipped 21) fun v19=>
 jw (f53 (decide (v9=0)) 3) fun v21=>
 jw (f53 v13.held 34) fun v23=>
 jw (f53 (!v17) 7) fun v25=>
 jw (f53 (decide (v13.left<v9)) 4) fun v27=>
 jw (f51 (some [v19,v21,v23,v25,v27])) fun v29=>
 cond (decide (v29=0))
  (jw (jg4 c0_1 v7 v9) fun v32=>
  jw (f188 v11.uses v13) fun v34=>
  cond (decide (0≤v34))
   (jw (zo (v11.uses.getD []) v34) fun v37=>
   jw (chO c0_3 v3 (qzf ⟨v13.name,j6 .i64 (v9+v37.n)⟩ v13)) fun us=>some (v29,v32,us))
   (jw (chO c0_3 v3 (qzf ⟨v13.name,v9⟩ v13)) fun us=>some (v29,v32,us)))
  (some (v29,c0_1,c0_3))
theorem j9v {a1:ql}{c0_0:Int}{c0_1:Option (List qj)}{c0_2:Option (List qi)}{c0_3:Option (List qf)}{x1 x2 x3:qn}{r}(h:f111 a1 c0_0 c0_1 c0_2 c0_3=some r):
  (r.1≠0∧r.2=(c0_1,c0_3)∧zf pr (X pr) 111 [.ptr 0 0,aE a1] [kR c0_0 c0_1 c0_2 c0_3,x1,x2,x3]=some (Iv r.1,false,[kR c0_0 c0_1 c0_2 c0_3,x1,x2,x3])) ∨
  (r.1=0∧∃(n:Nat) (b:qn) (cs:List (qa×Bool)),zf pr (X pr) 111 [.ptr 0 0,aE a1] [kR c0_0 c0_1 c0_2 c0_3,x1,x2,x3]=some (Iv 0,false,[.cells [(Iv c0_0,false),(sl 5 z7 r.2.1,false),(sl 4 zr c0_2,false),(.ms 5 0 n,false)],x1,x2,x3,b,.cells cs])∧cs.map (·.1)=yw vun (r.2.2.getD [])∧n=(r.2.2.getD []).length∧0<n):=by
 unfold f111 at h
 obtain⟨v1,h2,h⟩:=jx h
 obtain⟨v3,h4,h⟩:=jx h
 have wh4:jy pr (X pr) 93 [aG c0_0 c0_1 c0_2 c0_3,.str v1]=some (Iv v3,false):=W93 h4
 obtain⟨v5,h6,h⟩:=jx h
 obtain⟨v7,h8,h⟩:=jx h
 have wh8:jy pr (X pr) 72 [aG c0_0 c0_1 c0_2 c0_3,.str v5]=some (Iv v7,false):=W72 h8
 obtain⟨v9,h10,h⟩:=jx h
 obtain⟨v11,h12,h⟩:=jx h
 obtain⟨v13,h14,h⟩:=jx h
 obtain⟨v15,h16,h⟩:=jx h
 have wh16:jy pr (X pr) 134 [aG c0_0 c0_1 c0_2 c0_3,aU v11]=some (aD v15,false):=q7g h16
 obtain⟨v17,h18,h⟩:=jx h
 have wh18:jy pr (X pr) 168 [sl 2 vsi v15.needs,.fn (.func 184) [] [.vptr (aL v13)]]=some (.bool v17,false):=j3z h18
 obtain⟨v19,h20,h⟩:=jx h
 have wh20:jy pr (X pr) 53 [.bool v11.shipped,Iv 21]=some (Iv v19,false):=W53 h20
 obtain⟨v21,h22,h⟩:=jx h
 have wh22:jy pr (X pr) 53 [.bool (decide (v9=0)),Iv 3]=some (Iv v21,false):=W53 h22
 obtain⟨v23,h24,h⟩:=jx h
 have wh24:jy pr (X pr) 53 [.bool v13.held,Iv 34]=some (Iv v23,false):=W53 h24
 obtain⟨v25,h26,h⟩:=jx h
 have wh26:jy pr (X pr) 53 [.bool (!v17),Iv 7]=some (Iv v25,false):=W53 h26
 obtain⟨v27,h28,h⟩:=jx h
 have wh28:jy pr (X pr) 53 [.bool (decide (v13.left<v9)),Iv 4]=some (Iv v27,false):=W53 h28
 obtain⟨v29,h30,h⟩:=jx h
 have wh30:jy pr (X pr) 51 [.list false 1 [Iv v19,Iv v21,Iv v23,Iv v25,Iv v27]]=some (Iv v29,false):=W51 h30
 rcases jz h with⟨h31,h⟩|⟨h31,h⟩
 ·obtain⟨v32,h33,h⟩:=jx h
  have wh33:jy pr (X pr) 185 [sl 5 z7 c0_1,Iv v7,.fn (.func 186) [] [.vptr (Iv v9)]]=some (sl 5 z7 v32,false):=jdj h33
  obtain⟨v34,h35,h⟩:=jx h
  have wh35:jy pr (X pr) 188 [sl 2 vsi v11.uses,.fn (.func 187) [] [.vptr (aL v13)]]=some (Iv v34,false):=jr1 h35
  rcases jz h with⟨h36,h⟩|⟨h36,h⟩
  ·obtain⟨v37,h38,h⟩:=jx h
   obtain⟨us,hu,h⟩:=jx h
   cases h
   obtain⟨n,x,y,rfl,hl,hx,hy,rfl⟩:=qfy hu
   obtain⟨cs,g1,g2⟩:=jn1 (b0:=(kR c0_0 v32 c0_2 c0_3)) (b1:=x1) (b2:=x2) (b3:=x3) hx hy
   have w:=jju hl (List.getElem?_eq_some_iff.1 hx).1 g1
   simp only[q0f]at w
   refine .inr ⟨of_decide_eq_true h31,(c0_3.getD []).length,.cells [(.str v13.name,false),(Iv (j6 .i64 (v9+v37.n)),false)],cs,?_,g2,by simp,by have:=(List.getElem?_eq_some_iff.1 hx).1;omega⟩
   rw[zd (show pr.fns 111=some c111 from rfl) (by simp)]
   simp only[go_sem,seval,c111,ke h2,wh4,ke h6,wh8,ke h10,ke h12,ke h14,wh16,wh18,wh20,wh22,wh24,wh26,wh28,wh30,h31,wh33,wh35,h36,ke h38,w,(show ∀n,below 5 (.ms 5 0 n)=false from fun _=>rfl),Bool.false_and,cond_false]
  ·obtain⟨us,hu,h⟩:=jx h
   cases h
   obtain⟨n,x,y,rfl,hl,hx,hy,rfl⟩:=qfy hu
   obtain⟨cs,g1,g2⟩:=jn1 (b0:=(kR c0_0 v32 c0_2 c0_3)) (b1:=x1) (b2:=x2) (b3:=x3) hx hy
   have w:=jju hl (List.getElem?_eq_some_iff.1 hx).1 g1
   simp only[q0f]at w
   refine .inr ⟨of_decide_eq_true h31,(c0_3.getD []).length,.cells [(.str v13.name,false),(Iv v9,false)],cs,?_,g2,by simp,by have:=(List.getElem?_eq_some_iff.1 hx).1;omega⟩
   rw[zd (show pr.fns 111=some c111 from rfl) (by simp)]
   simp only[go_sem,seval,c111,ke h2,wh4,ke h6,wh8,ke h10,ke h12,ke h14,wh16,wh18,wh20,wh22,wh24,wh26,wh28,wh30,h31,wh33,wh35,h36,w,(show ∀n,below 5 (.ms 5 0 n)=false from fun _=>rfl),Bool.false_and,cond_false]
 ·cases h
  refine .inl ⟨of_decide_eq_false h31,rfl,?_⟩
  rw[zd (show pr.fns 111=some c111 from rfl) (by simp)]
  simp only[go_sem,seval,c111,ke h2,wh4,ke h6,wh8,ke h10,ke h12,ke h14,wh16,wh18,wh20,wh22,wh24,wh26,wh28,wh30,h31]<;>rfl
end Go.Z
end
