/- Chapter 10. -/
import Derived.Test.YtfopaakmgogpiaaGreatDoorV3
import Derived.Test.YtfopaakmgogpiaaGreatDoorAbsL
import Derived.Test.YtfopaakmgogpiaaGreatDoorCA
set_option linter.unusedVariables false
set_option linter.unusedSimpArgs false
set_option maxRecDepth 100000
set_option maxHeartbeats 4000000
noncomputable section
open Option renaming some→I
open Bool renaming false→Ef,true→E1,false_and→E3
open List renaming getElem?_eq_some_iff→En,map→E0
namespace Go.Z
open Go Go.Abs Go.W
def AO (a1:List UInt8)(dr:Int)(de:List UInt8)(wx:List UInt8)(aO:Int)(aK:Option (List qk))(aI:Option (List qi))(az:Option (List qf)):Option (Option (List qi)):=
 jw (f165 (⟨aO,aK,aI,az⟩) a1) fun v1=>
 jw (Vh aI v1 dr de wx) fun v3=>
 I v3
theorem j1h {a1:List UInt8}{dr:Int}{de:List UInt8}{wx:List UInt8}{aO:Int}{aK:Option (List qk)}{aI:Option (List qi)}{az:Option (List qf)}{x1:qn}{x2:qn}{x3:qn}{r}(h:AO a1 dr de wx aO aK aI az=I r):zf pr (X pr) 169 [.ptr 0 0,.str a1,.fn (.func 170) [] [.ah (Iv dr),.ah (.fn (.func 167) [] [.ah (.str de)]),.ah (.str wx)]] [kR aO aK aI az,x1,x2,x3]=I (.aB [],Ef,[kR aO aK r az,x1,x2,x3]):=by
 unfold AO at h
 rw[zd (show pr.bj 169=I nv from rfl) (by simp)]
 repeat' first|(replace h:=jx h;obtain⟨d,g,h⟩:=h;with_reducible first|replace g:=uZ g|replace g:=jfb g|skip)|(replace h:=jz h;rcases h with⟨g,h⟩|⟨g,h⟩)|fail
 all_goals (cases h<;>(simp only[go_sem,seval,nv, *]<;>rfl))
def D5 (a1:List UInt8)(dr:qj)(de:qj)(aO:Int)(aK:Option (List qk))(aI:Option (List qi))(az:Option (List qf)):Option (Option (List qi)):=
 jw (f165 (⟨aO,aK,aI,az⟩) a1) fun v1=>
 jw (Vi aI v1 dr de) fun v3=>
 I v3
theorem j0d {a1:List UInt8}{dr:qj}{de:qj}{aO:Int}{aK:Option (List qk)}{aI:Option (List qi)}{az:Option (List qf)}{x1:qn}{x2:qn}{x3:qn}{r}(h:D5 a1 dr de aO aK aI az=I r):zf pr (X pr) 169 [.ptr 0 0,.str a1,.fn (.func 176) [] [.ah (aT dr),.ah (.fn (.func 174) [] [.ah (aT de)])]] [kR aO aK aI az,x1,x2,x3]=I (.aB [],Ef,[kR aO aK r az,x1,x2,x3]):=by
 unfold D5 at h
 obtain⟨v1,h2,h⟩:=jx h
 have rM:jy pr (X pr) 165 [aG aO aK aI az,.str a1]=I (Iv v1,Ef):=uZ h2
 obtain⟨v3,h4,h⟩:=jx h
 have Bg:jy pr (X pr) 178 [sl 4 zr aI,Iv v1,.fn (.func 236) [] [.ah (.fn (.func 176) [] [.ah (aT dr),.ah (.fn (.func 174) [] [.ah (aT de)])])]]=I (sl 4 zr v3,Ef):=jgg h4
 have hr:v3=r:=I.inj h
 subst hr
 rw[zd (show pr.bj 169=I nv from rfl) (by simp)]
 simp only[go_sem,seval,nv,rM,Bg]<;>rfl
def f105 (a1:ql)(aO:Int)(aK:Option (List qk))(aI:Option (List qi))(az:Option (List qf)):Option (Int×(Option (List qk))×Bool):=
 jw (zo (a1.names.getD []) 0) fun v1=>
 jw (f72 (⟨aO,aK,aI,az⟩) v1) fun v3=>
 jw (f53 (decide (0≤v3)) 9) fun v5=>
 jw (zo (a1.values.getD []) 1) fun v7=>
 jw (f52 v7 1 10000) fun v9=>
 jw (f53 (decide (64≤((aK.getD []).length:Int))) 5) fun v11=>
 jw (f51 (I [v5,v9,v11])) fun dU=>
 cond (decide (dU=0))
  (jw (zo (a1.names.getD []) 1) fun dv=>
  jw (f164 aK (⟨v1,dv,v7,v7,Ef⟩)) fun fP=>
  I (0,fP,E1))
  (I (dU,aK,Ef))
theorem zgb {a1:ql}{aO:Int}{aK:Option (List qk)}{aI:Option (List qi)}{az:Option (List qf)}{x1:qn}{x2:qn}{x3:qn}{r}(h:f105 a1 aO aK aI az=I r):zf pr (X pr) 105 [.ptr 0 0,aE a1] [kR aO aK aI az,x1,x2,x3]=I (Iv r.1,Ef,[kS aO r.2.1 r.2.2 aI Ef az Ef,x1,x2,x3]):=by
 unfold f105 at h
 rw[zd (show pr.bj 105=I sA from rfl) (by simp)]
 repeat' first|(replace h:=jx h;obtain⟨d,g,h⟩:=h; (with_reducible first|replace g:=Ep g|replace g:=ei g|replace g:=NV g|replace g:=iw g|replace g:=zea g|skip);try dsimp only[y9,lF,E0,kr,qae,z7,zr,bp,ya,vev,aS,zz,dp,aE,aR,aU,aL,aP,aD]at g)|(replace h:=jz h;rcases h with⟨g,h⟩|⟨g,h⟩)|fail
 all_goals (cases h<;>(simp only[go_sem,seval,sA,zn, *]<;>rfl))
def f106 (a1:ql)(aO:Int)(aK:Option (List qk))(aI:Option (List qi))(az:Option (List qf)):Option (Int×(Option (List qi))×Bool):=
 jw (zo (a1.names.getD []) 0) fun v1=>
 jw (f165 (⟨aO,aK,aI,az⟩) v1) fun v3=>
 jw (f53 (decide (0≤v3)) 9) fun v5=>
 jw (f53 (decide (16≤((aI.getD []).length:Int))) 5) fun v7=>
 jw (f51 (I [v5,v7])) fun v9=>
 cond (decide (v9=0))
  (jw (f166 aI (⟨v1,none,none,none⟩)) fun v12=>
  I (0,v12,E1))
  (I (v9,aI,Ef))
theorem zgd {a1:ql}{aO:Int}{aK:Option (List qk)}{aI:Option (List qi)}{az:Option (List qf)}{x1:qn}{x2:qn}{x3:qn}{r}(h:f106 a1 aO aK aI az=I r):zf pr (X pr) 106 [.ptr 0 0,aE a1] [kR aO aK aI az,x1,x2,x3]=I (Iv r.1,Ef,[kS aO aK Ef r.2.1 r.2.2 az Ef,x1,x2,x3]):=by
 unfold f106 at h
 rw[zd (show pr.bj 106=I sB from rfl) (by simp)]
 repeat' first|(replace h:=jx h;obtain⟨d,g,h⟩:=h; (with_reducible first|replace g:=uZ g|replace g:=ei g|replace g:=iw g|replace g:=zid g|skip);try dsimp only[y9,lF,E0,kr,qae,z7,zr,bp,ya,vev,aS,zz,dp,aE,aR,aU,aL,aP,aD]at g)|(replace h:=jz h;rcases h with⟨g,h⟩|⟨g,h⟩)|fail
 all_goals (cases h<;>(simp only[go_sem,seval,sB,zn, *]<;>rfl))
def f107 (a1:ql)(aO:Int)(aK:Option (List qk))(aI:Option (List qi))(az:Option (List qf)):Option (Int×(Option (List qi))):=
 jw (zo (a1.names.getD []) 1) fun v1=>
 jw (zo (a1.values.getD []) 1) fun v3=>
 jw (zo (a1.names.getD []) 0) fun v5=>
 jw (f165 (⟨aO,aK,aI,az⟩) v5) fun v7=>
 jw (zo (aI.getD []) v7) fun v9=>
 jw (f52 v3 0 10000) fun v11=>
 cond (decide (0<v3))
  (jw (G4 v9.dn v1) fun dG=>
  cond dG
   (jw (f53 Ef 5) fun fT=>
   jw (f51 (I [v11,fT])) fun nw=>
   cond (decide (nw=0))
    (jw (AO v5 v3 v1 v1 aO aK aI az) fun ej=>
    I (0,ej))
    (I (nw,aI)))
   (jw (f53 (decide (16≤((v9.dn.getD []).length:Int))) 5) fun v24=>
   jw (f51 (I [v11,v24])) fun fC=>
   cond (decide (fC=0))
    (jw (AO v5 v3 v1 v1 aO aK aI az) fun hO=>
    I (0,hO))
    (I (fC,aI))))
  (jw (f53 Ef 5) fun v31=>
  jw (f51 (I [v11,v31])) fun wj=>
  cond (decide (wj=0))
   (jw (AO v5 v3 v1 v1 aO aK aI az) fun yA=>
   I (0,yA))
   (I (wj,aI)))
theorem j9o {a1:ql}{aO:Int}{aK:Option (List qk)}{aI:Option (List qi)}{az:Option (List qf)}{x1:qn}{x2:qn}{x3:qn}{r}(h:f107 a1 aO aK aI az=I r):zf pr (X pr) 107 [.ptr 0 0,aE a1] [kR aO aK aI az,x1,x2,x3]=I (Iv r.1,Ef,[kR aO aK r.2 az,x1,x2,x3]):=by
 unfold f107 at h
 rw[zd (show pr.bj 107=I sC from rfl) (by simp)]
 repeat' first|(replace h:=jx h;obtain⟨d,g,h⟩:=h; (with_reducible first|replace g:=uZ g|replace g:=NV g|replace g:=j1r g|replace g:=ei g|replace g:=iw g|replace g:=j1h (x1:=x1) (x2:=x2) (x3:=x3) g|skip);try dsimp only[y9,lF,E0,kr,qae,z7,zr,bp,ya,vev,aS,zz,dp,aE,aR,aU,aL,aP,aD]at g)|(replace h:=jz h;rcases h with⟨g,h⟩|⟨g,h⟩)|fail
 all_goals (cases h<;>(simp only[go_sem,seval,sC,zn, *]<;>rfl))
def f108 (a1:ql)(aO:Int)(aK:Option (List qk))(aI:Option (List qi))(az:Option (List qf)):Option (Int×(Option (List qi))):=
 jw (zo (a1.names.getD []) 1) fun v1=>
 jw (zo (a1.values.getD []) 1) fun v3=>
 jw (zo (a1.values.getD []) 2) fun v5=>
 jw (zo (a1.names.getD []) 0) fun v7=>
 jw (f165 (⟨aO,aK,aI,az⟩) v7) fun v9=>
 jw (zo (aI.getD []) v9) fun v11=>
 jw (f53 (decide (v5<v3)) 11) fun dU=>
 jw (G8 v11.dt (⟨v1,v3,v5⟩)) fun eZ=>
 cond eZ
  (jw (f53 Ef 5) fun fP=>
  jw (f51 (I [dU,fP])) fun v20=>
  cond (decide (v20=0))
   (jw (D5 v7 (⟨v1,v3,v5⟩) (⟨v1,v3,v5⟩) aO aK aI az) fun iY=>
   I (0,iY))
   (I (v20,aI)))
  (jw (f53 (decide (16≤((v11.dt.getD []).length:Int))) 5) fun pz=>
  jw (f51 (I [dU,pz])) fun sD=>
  cond (decide (sD=0))
   (jw (D5 v7 (⟨v1,v3,v5⟩) (⟨v1,v3,v5⟩) aO aK aI az) fun v30=>
   I (0,v30))
   (I (sD,aI)))
theorem zg3 {a1:ql}{aO:Int}{aK:Option (List qk)}{aI:Option (List qi)}{az:Option (List qf)}{x1:qn}{x2:qn}{x3:qn}{r}(h:f108 a1 aO aK aI az=I r):zf pr (X pr) 108 [.ptr 0 0,aE a1] [kR aO aK aI az,x1,x2,x3]=I (Iv r.1,Ef,[kR aO aK r.2 az,x1,x2,x3]):=by
 unfold f108 at h
 rw[zd (show pr.bj 108=I sE from rfl) (by simp)]
 repeat' first|(replace h:=jx h;obtain⟨d,g,h⟩:=h; (with_reducible first|replace g:=uZ g|replace g:=ei g|replace g:=jzz g|replace g:=iw g|replace g:=j0d (x1:=x1) (x2:=x2) (x3:=x3) g|skip);try dsimp only[y9,lF,E0,kr,qae,z7,zr,bp,ya,vev,aS,zz,dp,aE,aR,aU,aL,aP,aD]at g)|(replace h:=jz h;rcases h with⟨g,h⟩|⟨g,h⟩)|fail
 all_goals (cases h<;>(simp only[go_sem,seval,sE,zn, *]<;>rfl))
def f109 (a1:ql)(aO:Int)(aK:Option (List qk))(aI:Option (List qi))(az:Option (List qf)):Option (Int×(Option (List qi))):=
 jw (zo (a1.names.getD []) 0) fun v1=>
 jw (f165 (⟨aO,aK,aI,az⟩) v1) fun v3=>
 jw (zo (aI.getD []) v3) fun v5=>
 jw (f53 (decide (((v5.dn.getD []).length:Int)=0)) 12) fun v7=>
 jw (f53 (decide (100≤((v5.aH.getD []).length:Int))) 5) fun v9=>
 jw (f51 (I [v7,v9])) fun v11=>
 cond (decide (v11=0))
  (jw (Nv aI v3) fun dG=>
  I (0,dG))
  (I (v11,aI))
theorem zc4 {a1:ql}{aO:Int}{aK:Option (List qk)}{aI:Option (List qi)}{az:Option (List qf)}{x1:qn}{x2:qn}{x3:qn}{r}(h:f109 a1 aO aK aI az=I r):zf pr (X pr) 109 [.ptr 0 0,aE a1] [kR aO aK aI az,x1,x2,x3]=I (Iv r.1,Ef,[kR aO aK r.2 az,x1,x2,x3]):=by
 unfold f109 at h
 rw[zd (show pr.bj 109=I sF from rfl) (by simp)]
 repeat' first|(replace h:=jx h;obtain⟨d,g,h⟩:=h; (with_reducible first|replace g:=uZ g|replace g:=ei g|replace g:=iw g|replace g:=je0 g|skip);try dsimp only[y9,lF,E0,kr,qae,z7,zr,bp,ya,vev,aS,zz,dp,aE,aR,aU,aL,aP,aD]at g)|(replace h:=jz h;rcases h with⟨g,h⟩|⟨g,h⟩)|fail
 all_goals (cases h<;>(simp only[go_sem,seval,sF,zn, *]<;>rfl))
def f110 (a1:ql)(aO:Int)(aK:Option (List qk))(aI:Option (List qi))(az:Option (List qf)):Option (Int×(Option (List qf))×Bool):=
 jw (zo (a1.names.getD []) 1) fun v1=>
 jw (f165 (⟨aO,aK,aI,az⟩) v1) fun v3=>
 jw (zo (aI.getD []) v3) fun v5=>
 jw (f182 v5) fun v7=>
 jw (zo (a1.names.getD []) 0) fun v9=>
 jw (f93 (⟨aO,aK,aI,az⟩) v9) fun v11=>
 jw (f53 (decide (0≤v11)) 9) fun dU=>
 jw (f53 (decide (v7=0)) 32) fun eZ=>
 jw (f53 (decide (256≤((az.getD []).length:Int))) 5) fun fT=>
 jw (f51 (I [dU,eZ,fT])) fun nw=>
 cond (decide (nw=0))
  (jw (f183 az (⟨v9,v1,v7,none,none,[],Ef,0⟩)) fun ej=>
  I (0,ej,E1))
  (I (nw,az,Ef))
theorem zhi {a1:ql}{aO:Int}{aK:Option (List qk)}{aI:Option (List qi)}{az:Option (List qf)}{x1:qn}{x2:qn}{x3:qn}{r}(h:f110 a1 aO aK aI az=I r):zf pr (X pr) 110 [.ptr 0 0,aE a1] [kR aO aK aI az,x1,x2,x3]=I (Iv r.1,Ef,[kS aO aK Ef aI Ef r.2.1 r.2.2,x1,x2,x3]):=by
 unfold f110 at h
 rw[zd (show pr.bj 110=I sG from rfl) (by simp)]
 repeat' first|(replace h:=jx h;obtain⟨d,g,h⟩:=h; (with_reducible first|replace g:=uZ g|replace g:=jsp g|replace g:=yB g|replace g:=ei g|replace g:=iw g|replace g:=j94 g|skip);try dsimp only[y9,lF,E0,kr,qae,z7,zr,bp,ya,vev,aS,zz,dp,aE,aR,aU,aL,aP,aD]at g)|(replace h:=jz h;rcases h with⟨g,h⟩|⟨g,h⟩)|fail
 all_goals (cases h<;>(simp only[go_sem,seval,sG,zn, *]<;>rfl))
def f112 (a1:ql)(aO:Int)(aK:Option (List qk))(aI:Option (List qi))(az:Option (List qf)):Option (Int×(Option (List qf))):=
 jw (zo (a1.names.getD []) 0) fun v1=>
 jw (f93 (⟨aO,aK,aI,az⟩) v1) fun v3=>
 jw (zo (az.getD []) v3) fun v5=>
 jw (f134 (⟨aO,aK,aI,az⟩) v5) fun v7=>
 jw (G9 v7.aw a1) fun v9=>
 jw (f53 v5.aq 21) fun v11=>
 jw (f53 (!v9) 7) fun dU=>
 jw (f53 (decide (64≤((v5.results.getD []).length:Int))) 5) fun eZ=>
 jw (f51 (I [v11,dU,eZ])) fun fT=>
 cond (decide (fT=0))
  (jw (Vp az v3 a1) fun v20=>
  I (0,v20))
  (I (fT,az))
theorem za5 {a1:ql}{aO:Int}{aK:Option (List qk)}{aI:Option (List qi)}{az:Option (List qf)}{x1:qn}{x2:qn}{x3:qn}{r}(h:f112 a1 aO aK aI az=I r):zf pr (X pr) 112 [.ptr 0 0,aE a1] [kR aO aK aI az,x1,x2,x3]=I (Iv r.1,Ef,[kR aO aK aI r.2,x1,x2,x3]):=by
 unfold f112 at h
 rw[zd (show pr.bj 112=I sH from rfl) (by simp)]
 repeat' first|(replace h:=jx h;obtain⟨d,g,h⟩:=h; (with_reducible first|replace g:=yB g|replace g:=NY g|replace g:=jya g|replace g:=ei g|replace g:=iw g|replace g:=jie g|skip);try dsimp only[y9,lF,E0,kr,qae,z7,zr,bp,ya,vev,aS,zz,dp,aE,aR,aU,aL,aP,aD]at g)|(replace h:=jz h;rcases h with⟨g,h⟩|⟨g,h⟩)|fail
 all_goals (cases h<;>(simp only[go_sem,seval,sH,zn, *]<;>rfl))
def f113 (a1:ql)(aO:Int)(aK:Option (List qk))(aI:Option (List qi))(az:Option (List qf)):Option (Int×(Option (List qf))):=
 jw (zo (a1.names.getD []) 0) fun v1=>
 jw (f93 (⟨aO,aK,aI,az⟩) v1) fun v3=>
 jw (zo (az.getD []) v3) fun v5=>
 jw (f140 (⟨aO,aK,aI,az⟩) v5) fun v7=>
 jw (f53 v5.aq 21) fun v9=>
 jw (f53 (decide (v5.version=v7)) 32) fun v11=>
 jw (f51 (I [v9,v11])) fun dU=>
 cond (decide (dU=0))
  (jw (Vm az v3 v7) fun dv=>
  I (0,dv))
  (I (dU,az))
theorem zbv {a1:ql}{aO:Int}{aK:Option (List qk)}{aI:Option (List qi)}{az:Option (List qf)}{x1:qn}{x2:qn}{x3:qn}{r}(h:f113 a1 aO aK aI az=I r):zf pr (X pr) 113 [.ptr 0 0,aE a1] [kR aO aK aI az,x1,x2,x3]=I (Iv r.1,Ef,[kR aO aK aI r.2,x1,x2,x3]):=by
 unfold f113 at h
 rw[zd (show pr.bj 113=I sI from rfl) (by simp)]
 repeat' first|(replace h:=jx h;obtain⟨d,g,h⟩:=h; (with_reducible first|replace g:=yB g|replace g:=jq7 g|replace g:=ei g|replace g:=iw g|replace g:=jja g|skip);try dsimp only[y9,lF,E0,kr,qae,z7,zr,bp,ya,vev,aS,zz,dp,aE,aR,aU,aL,aP,aD]at g)|(replace h:=jz h;rcases h with⟨g,h⟩|⟨g,h⟩)|fail
 all_goals (cases h<;>(simp only[go_sem,seval,sI,zn, *]<;>rfl))
def f114 (a1:ql)(aO:Int)(aK:Option (List qk))(aI:Option (List qi))(az:Option (List qf)):Option (Int×(Option (List qf))):=
 jw (zo (a1.names.getD []) 0) fun v1=>
 jw (f93 (⟨aO,aK,aI,az⟩) v1) fun v3=>
 jw (zo (a1.names.getD []) 1) fun v5=>
 jw (f93 (⟨aO,aK,aI,az⟩) v5) fun v7=>
 jw (zo (az.getD []) v3) fun v9=>
 jw (zo (az.getD []) v7) fun v11=>
 jw (f53 (decide (v3=v7)) 9) fun dU=>
 cond (decide (v9.product=v11.product))
  (jw (f53 (!decide (v9.version=v11.version)) 30) fun dv=>
  cond v9.aq
   (jw (f53 E1 21) fun nw=>
   cond (decide (v9.partner=[]))
    (jw (f53 (!decide (v11.partner=[])) 35) fun ej=>
    jw (f51 (I [dU,dv,nw,ej])) fun v24=>
    cond (decide (v24=0))
     (jw (uL az v3 v11) fun sD=>
     jw (uM sD v7 (⟨v9.name,v9.product,v9.version,v9.uses,v9.results,v9.partner,E1,v9.ai⟩)) fun hO=>
     I (0,hO))
     (I (v24,az)))
    (jw (f53 E1 35) fun v31=>
    jw (f51 (I [dU,dv,nw,v31])) fun wj=>
    cond (decide (wj=0))
     (jw (uL az v3 v11) fun yA=>
     jw (uM yA v7 (⟨v9.name,v9.product,v9.version,v9.uses,v9.results,v9.partner,E1,v9.ai⟩)) fun si=>
     I (0,si))
     (I (wj,az))))
   (jw (f53 v11.aq 21) fun v40=>
   cond (decide (v9.partner=[]))
    (jw (f53 (!decide (v11.partner=[])) 35) fun py=>
    jw (f51 (I [dU,dv,v40,py])) fun yn=>
    cond (decide (yn=0))
     (jw (uL az v3 v11) fun H6=>
     jw (uM H6 v7 (⟨v9.name,v9.product,v9.version,v9.uses,v9.results,v9.partner,Ef,v9.ai⟩)) fun v50=>
     I (0,v50))
     (I (yn,az)))
    (jw (f53 E1 35) fun v52=>
    jw (f51 (I [dU,dv,v40,v52])) fun NZ=>
    cond (decide (NZ=0))
     (jw (uL az v3 v11) fun N0=>
     jw (uM N0 v7 (⟨v9.name,v9.product,v9.version,v9.uses,v9.results,v9.partner,Ef,v9.ai⟩)) fun v59=>
     I (0,v59))
     (I (NZ,az)))))
  (jw (f53 E1 30) fun wy=>
  cond v9.aq
   (jw (f53 E1 21) fun v64=>
   cond (decide (v9.partner=[]))
    (jw (f53 (!decide (v11.partner=[])) 35) fun v67=>
    jw (f51 (I [dU,wy,v64,v67])) fun v69=>
    cond (decide (v69=0))
     (jw (uL az v3 v11) fun v72=>
     jw (uM v72 v7 (⟨v9.name,v9.product,v9.version,v9.uses,v9.results,v9.partner,E1,v9.ai⟩)) fun Wu=>
     I (0,Wu))
     (I (v69,az)))
    (jw (f53 E1 35) fun v76=>
    jw (f51 (I [dU,wy,v64,v76])) fun N1=>
    cond (decide (N1=0))
     (jw (uL az v3 v11) fun v81=>
     jw (uM v81 v7 (⟨v9.name,v9.product,v9.version,v9.uses,v9.results,v9.partner,E1,v9.ai⟩)) fun Wv=>
     I (0,Wv))
     (I (N1,az))))
   (jw (f53 v11.aq 21) fun v85=>
   cond (decide (v9.partner=[]))
    (jw (f53 (!decide (v11.partner=[])) 35) fun Ww=>
    jw (f51 (I [dU,wy,v85,Ww])) fun N2=>
    cond (decide (N2=0))
     (jw (uL az v3 v11) fun v93=>
     jw (uM v93 v7 (⟨v9.name,v9.product,v9.version,v9.uses,v9.results,v9.partner,Ef,v9.ai⟩)) fun Wx=>
     I (0,Wx))
     (I (N2,az)))
    (jw (f53 E1 35) fun Wy=>
    jw (f51 (I [dU,wy,v85,Wy])) fun N3=>
    cond (decide (N3=0))
     (jw (uL az v3 v11) fun Wz=>
     jw (uM Wz v7 (⟨v9.name,v9.product,v9.version,v9.uses,v9.results,v9.partner,Ef,v9.ai⟩)) fun WA=>
     I (0,WA))
     (I (N3,az)))))
theorem zdm {a1:ql}{aO:Int}{aK:Option (List qk)}{aI:Option (List qi)}{az:Option (List qf)}{x1:qn}{x2:qn}{x3:qn}{r}(h:f114 a1 aO aK aI az=I r):zf pr (X pr) 114 [.ptr 0 0,aE a1] [kR aO aK aI az,x1,x2,x3]=I (Iv r.1,Ef,[kR aO aK aI r.2,x1,x2,x3]):=by
 unfold f114 at h
 rw[zd (show pr.bj 114=I sJ from rfl) (by simp)]
 repeat' first|(replace h:=jx h;obtain⟨d,g,h⟩:=h; (with_reducible first|replace g:=yB g|replace g:=ei g|replace g:=iw g|replace g:=jf6 g|replace g:=jfp g|skip);try dsimp only[y9,lF,E0,kr,qae,z7,zr,bp,ya,vev,aS,zz,dp,aE,aR,aU,aL,aP,aD]at g)|(replace h:=jz h;rcases h with⟨g,h⟩|⟨g,h⟩)|fail
 all_goals (cases h<;>(simp only[go_sem,seval,sJ,zn, *]<;>rfl))
def f115 (a1:ql)(aO:Int)(aK:Option (List qk))(aI:Option (List qi))(az:Option (List qf)):Option (Int×(Option (List qk))):=
 jw (zo (a1.names.getD []) 0) fun v1=>
 jw (f72 (⟨aO,aK,aI,az⟩) v1) fun v3=>
 jw (zo (aK.getD []) v3) fun v5=>
 cond v5.held
  (I (34,aK))
  (jw (Vj aK v3) fun v8=>
  I (0,v8))
theorem zcl {a1:ql}{aO:Int}{aK:Option (List qk)}{aI:Option (List qi)}{az:Option (List qf)}{x1:qn}{x2:qn}{x3:qn}{r}(h:f115 a1 aO aK aI az=I r):zf pr (X pr) 115 [.ptr 0 0,aE a1] [kR aO aK aI az,x1,x2,x3]=I (Iv r.1,Ef,[kR aO r.2 aI az,x1,x2,x3]):=by
 unfold f115 at h
 rw[zd (show pr.bj 115=I sK from rfl) (by simp)]
 repeat' first|(replace h:=jx h;obtain⟨d,g,h⟩:=h;with_reducible first|replace g:=Ep g|replace g:=jfu g|skip)|(replace h:=jz h;rcases h with⟨g,h⟩|⟨g,h⟩)|fail
 all_goals (cases h<;>(simp only[go_sem,seval,sK,zn, *]<;>rfl))
def f116 (a1:ql)(aO:Int)(aK:Option (List qk))(aI:Option (List qi))(az:Option (List qf)):Option (Int×(Option (List qk))):=
 jw (zo (a1.names.getD []) 0) fun v1=>
 jw (f72 (⟨aO,aK,aI,az⟩) v1) fun v3=>
 jw (zo (aK.getD []) v3) fun v5=>
 cond v5.held
  (jw (Vk aK v3) fun v8=>
  I (0,v8))
  (I (20,aK))
theorem zd6 {a1:ql}{aO:Int}{aK:Option (List qk)}{aI:Option (List qi)}{az:Option (List qf)}{x1:qn}{x2:qn}{x3:qn}{r}(h:f116 a1 aO aK aI az=I r):zf pr (X pr) 116 [.ptr 0 0,aE a1] [kR aO aK aI az,x1,x2,x3]=I (Iv r.1,Ef,[kR aO r.2 aI az,x1,x2,x3]):=by
 unfold f116 at h
 rw[zd (show pr.bj 116=I sL from rfl) (by simp)]
 repeat' first|(replace h:=jx h;obtain⟨d,g,h⟩:=h;with_reducible first|replace g:=Ep g|replace g:=jhb g|skip)|(replace h:=jz h;rcases h with⟨g,h⟩|⟨g,h⟩)|fail
 all_goals (cases h<;>(simp only[go_sem,seval,sL,zn, *]<;>rfl))
def f118 (a1:ql)(aO:Int)(aK:Option (List qk))(aI:Option (List qi))(az:Option (List qf)):Option (Int×(Option (List qf))):=
 jw (zo (a1.names.getD []) 0) fun v1=>
 jw (f93 (⟨aO,aK,aI,az⟩) v1) fun v3=>
 jw (zo (az.getD []) v3) fun v5=>
 cond v5.aq
  (jw (Vo az v3) fun v8=>
  I (0,v8))
  (I (20,az))
theorem zad {a1:ql}{aO:Int}{aK:Option (List qk)}{aI:Option (List qi)}{az:Option (List qf)}{x1:qn}{x2:qn}{x3:qn}{r}(h:f118 a1 aO aK aI az=I r):zf pr (X pr) 118 [.ptr 0 0,aE a1] [kR aO aK aI az,x1,x2,x3]=I (Iv r.1,Ef,[kR aO aK aI r.2,x1,x2,x3]):=by
 unfold f118 at h
 rw[zd (show pr.bj 118=I sM from rfl) (by simp)]
 repeat' first|(replace h:=jx h;obtain⟨d,g,h⟩:=h;with_reducible first|replace g:=yB g|replace g:=jg2 g|skip)|(replace h:=jz h;rcases h with⟨g,h⟩|⟨g,h⟩)|fail
 all_goals (cases h<;>(simp only[go_sem,seval,sM,zn, *]<;>rfl))
end Go.Z
namespace Go.Z
open Go Go.Abs Go.W
def f111 (a1:ql)(aO:Int)(aK:Option (List qk))(aI:Option (List qi))(az:Option (List qf)):Option (Int×(Option (List qk))×(Option (List qf))):=
 jw (zo (a1.names.getD []) 0) fun v1=>
 jw (f93 (⟨aO,aK,aI,az⟩) v1) fun v3=>
 jw (zo (a1.names.getD []) 1) fun v5=>
 jw (f72 (⟨aO,aK,aI,az⟩) v5) fun v7=>
 jw (zo (a1.values.getD []) 1) fun v9=>
 jw (zo (az.getD []) v3) fun v11=>
 jw (zo (aK.getD []) v7) fun dU=>
 jw (f134 (⟨aO,aK,aI,az⟩) v11) fun eZ=>
 jw (G6 eZ.ax dU) fun fT=>
 jw (f53 v11.aq 21) fun nw=>
 jw (f53 (decide (v9=0)) 3) fun v21=>
 jw (f53 dU.held 34) fun iY=>
 jw (f53 (!fT) 7) fun pz=>
 jw (f53 (decide (dU.left<v9)) 4) fun sD=>
 jw (f51 (I [nw,v21,iY,pz,sD])) fun hO=>
 cond (decide (hO=0))
  (jw (Vq aK v7 v9) fun jM=>
  jw (f188 v11.uses dU) fun N4=>
  cond (decide (0≤N4))
   (jw (zo (v11.uses.getD []) N4) fun v37=>
   jw (fN az v3 (D8 ⟨dU.name,j6 .i64 (v9+v37.n)⟩ dU)) fun us=>I (hO,jM,us))
   (jw (fN az v3 (D8 ⟨dU.name,v9⟩ dU)) fun us=>I (hO,jM,us)))
  (I (hO,aK,az))
theorem zdn {a1:ql}{aO:Int}{aK:Option (List qk)}{aI:Option (List qi)}{az:Option (List qf)}{x1 x2 x3:qn}{r}(h:f111 a1 aO aK aI az=I r):
  (r.1≠0∧r.2=(aK,az)∧zf pr (X pr) 111 [.ptr 0 0,aE a1] [kR aO aK aI az,x1,x2,x3]=I (Iv r.1,Ef,[kR aO aK aI az,x1,x2,x3])) ∨
  (r.1=0∧∃(n:Nat) (b:qn) (cs:List (qa×Bool)),zf pr (X pr) 111 [.ptr 0 0,aE a1] [kR aO aK aI az,x1,x2,x3]=I (Iv 0,Ef,[.cells [(Iv aO,Ef),(sl 5 z7 r.2.1,Ef),(sl 4 zr aI,Ef),(.ms 5 0 n,Ef)],x1,x2,x3,b,.cells cs])∧cs.map (·.1)=yw bp (r.2.2.getD [])∧n=(r.2.2.getD []).length∧0<n):=by
 unfold f111 at h
 obtain⟨v1,h2,h⟩:=jx h
 obtain⟨v3,h4,h⟩:=jx h
 have Bg:jy pr (X pr) 93 [aG aO aK aI az,.str v1]=I (Iv v3,Ef):=yB h4
 obtain⟨v5,h6,h⟩:=jx h
 obtain⟨v7,h8,h⟩:=jx h
 have WB:jy pr (X pr) 72 [aG aO aK aI az,.str v5]=I (Iv v7,Ef):=Ep h8
 obtain⟨v9,iW,h⟩:=jx h
 obtain⟨v11,lK,h⟩:=jx h
 obtain⟨dU,mZ,h⟩:=jx h
 obtain⟨eZ,mY,h⟩:=jx h
 have Bh:jy pr (X pr) 134 [aG aO aK aI az,aU v11]=I (aD eZ,Ef):=NY mY
 obtain⟨fT,V9,h⟩:=jx h
 have Bi:jy pr (X pr) 168 [sl 2 aS eZ.ax,.fn (.func 184) [] [.ah (aL dU)]]=I (.bool fT,Ef):=jzf V9
 obtain⟨nw,F4,h⟩:=jx h
 have Bj:jy pr (X pr) 53 [.bool v11.aq,Iv 21]=I (Iv nw,Ef):=ei F4
 obtain⟨v21,F5,h⟩:=jx h
 have Bk:jy pr (X pr) 53 [.bool (decide (v9=0)),Iv 3]=I (Iv v21,Ef):=ei F5
 obtain⟨iY,F6,h⟩:=jx h
 have Bl:jy pr (X pr) 53 [.bool dU.held,Iv 34]=I (Iv iY,Ef):=ei F6
 obtain⟨pz,HG,h⟩:=jx h
 have Bm:jy pr (X pr) 53 [.bool (!fT),Iv 7]=I (Iv pz,Ef):=ei HG
 obtain⟨sD,HI,h⟩:=jx h
 have Bn:jy pr (X pr) 53 [.bool (decide (dU.left<v9)),Iv 4]=I (Iv sD,Ef):=ei HI
 obtain⟨hO,HJ,h⟩:=jx h
 have Bo:jy pr (X pr) 51 [.list Ef 1 [Iv nw,Iv v21,Iv iY,Iv pz,Iv sD]]=I (Iv hO,Ef):=iw HJ
 rcases jz h with⟨qW,h⟩|⟨qW,h⟩
 ·obtain⟨jM,h33,h⟩:=jx h
  have II:jy pr (X pr) 185 [sl 5 z7 aK,Iv v7,.fn (.func 186) [] [.ah (Iv v9)]]=I (sl 5 z7 jM,Ef):=jjf h33
  obtain⟨N4,WC,h⟩:=jx h
  have IJ:jy pr (X pr) 188 [sl 2 aS v11.uses,.fn (.func 187) [] [.ah (aL dU)]]=I (Iv N4,Ef):=jq3 WC
  rcases jz h with⟨IK,h⟩|⟨IK,h⟩
  ·obtain⟨v37,h38,h⟩:=jx h
   obtain⟨us,hu,h⟩:=jx h
   cases h
   obtain⟨n,x,y,rfl,hl,hx,hy,rfl⟩:=x9 hu
   obtain⟨cs,g1,g2⟩:=jpr (b0:=(kR aO jM aI az)) (b1:=x1) (b2:=x2) (b3:=x3) hx hy
   have w:=jj4 hl (En.1 hx).1 g1
   simp only[qz8]at w
   refine .inr ⟨of_decide_eq_true qW,(az.getD []).length,.cells [(.str dU.name,Ef),(Iv (j6 .i64 (v9+v37.n)),Ef)],cs,?_,g2,by simp,by have:=(En.1 hx).1;omega⟩
   rw[zd (show pr.bj 111=I kJ from rfl) (by simp)]
   simp only[go_sem,seval,kJ,kc h2,Bg,kc h6,WB,kc iW,kc lK,kc mZ,Bh,Bi,Bj,Bk,Bl,Bm,Bn,Bo,qW,II,IJ,IK,kc h38,w,(show ∀n,below 5 (.ms 5 0 n)=Ef from fun _=>rfl),E3,cond_false]
  ·obtain⟨us,hu,h⟩:=jx h
   cases h
   obtain⟨n,x,y,rfl,hl,hx,hy,rfl⟩:=x9 hu
   obtain⟨cs,g1,g2⟩:=jpr (b0:=(kR aO jM aI az)) (b1:=x1) (b2:=x2) (b3:=x3) hx hy
   have w:=jj4 hl (En.1 hx).1 g1
   simp only[qz8]at w
   refine .inr ⟨of_decide_eq_true qW,(az.getD []).length,.cells [(.str dU.name,Ef),(Iv v9,Ef)],cs,?_,g2,by simp,by have:=(En.1 hx).1;omega⟩
   rw[zd (show pr.bj 111=I kJ from rfl) (by simp)]
   simp only[go_sem,seval,kJ,kc h2,Bg,kc h6,WB,kc iW,kc lK,kc mZ,Bh,Bi,Bj,Bk,Bl,Bm,Bn,Bo,qW,II,IJ,IK,w,(show ∀n,below 5 (.ms 5 0 n)=Ef from fun _=>rfl),E3,cond_false]
 ·cases h
  refine .inl ⟨of_decide_eq_false qW,rfl,?_⟩
  rw[zd (show pr.bj 111=I kJ from rfl) (by simp)]
  simp only[go_sem,seval,kJ,kc h2,Bg,kc h6,WB,kc iW,kc lK,kc mZ,Bh,Bi,Bj,Bk,Bl,Bm,Bn,Bo,qW]<;>rfl
end Go.Z
end
