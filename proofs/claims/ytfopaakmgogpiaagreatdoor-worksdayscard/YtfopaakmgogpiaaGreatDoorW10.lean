/- Chapter 10. -/
import Derived.Test.YtfopaakmgogpiaaGreatDoorV3
set_option maxRecDepth 100000
set_option maxHeartbeats 4000000
noncomputable section
open Option renaming some→I
open Bool renaming false→En,true→E3,false_and→E4
open List renaming getElem?_eq_some_iff→E1,map→E2
namespace Go.Z
open Go Go.Abs Go.W
def Au (a1:List UInt8)(dl:Int)(da:List UInt8)(vU:List UInt8)(aO:Int)(aK:Option (List qj))(aI:Option (List qi))(az:Option (List qe)):Option (Option (List qi)):=
 jx (f165 (⟨aO,aK,aI,az⟩) a1) fun v1=>
 jx (Vg aI v1 dl da vU) fun v3=>
 I v3
theorem j5v {a1:List UInt8}{dl:Int}{da:List UInt8}{vU:List UInt8}{aO:Int}{aK:Option (List qj)}{aI:Option (List qi)}{az:Option (List qe)}{x1:qn}{x2:qn}{x3:qn}{r}(h:Au a1 dl da vU aO aK aI az=I r):zg pr (X pr) 169 [.ptr 0 0,.str a1,.fn (.func 170) [] [.ah (Iv dl),.ah (.fn (.func 167) [] [.ah (.str da)]),.ah (.str vU)]] [kR aO aK aI az,x1,x2,x3]=I (.aC [],En,[kR aO aK r az,x1,x2,x3]):=by
 unfold Au at h
 rw[zh (show pr.bL 169=I nf from rfl) (by simp)]
 repeat' first|(replace h:=jy h;obtain⟨d,g,h⟩:=h;with_reducible first|replace g:=uQ g|replace g:=jja g|skip)|(replace h:=j6 h;rcases h with⟨g,h⟩|⟨g,h⟩)|fail
 all_goals (cases h<;>(simp only[go_sem,seval,nf, *]<;>rfl))
def DS (a1:List UInt8)(dl:qk)(da:qk)(aO:Int)(aK:Option (List qj))(aI:Option (List qi))(az:Option (List qe)):Option (Option (List qi)):=
 jx (f165 (⟨aO,aK,aI,az⟩) a1) fun v1=>
 jx (Vh aI v1 dl da) fun v3=>
 I v3
theorem j5m {a1:List UInt8}{dl:qk}{da:qk}{aO:Int}{aK:Option (List qj)}{aI:Option (List qi)}{az:Option (List qe)}{x1:qn}{x2:qn}{x3:qn}{r}(h:DS a1 dl da aO aK aI az=I r):zg pr (X pr) 169 [.ptr 0 0,.str a1,.fn (.func 176) [] [.ah (aT dl),.ah (.fn (.func 174) [] [.ah (aT da)])]] [kR aO aK aI az,x1,x2,x3]=I (.aC [],En,[kR aO aK r az,x1,x2,x3]):=by
 unfold DS at h
 obtain⟨v1,h2,h⟩:=jy h
 have rH:jz pr (X pr) 165 [aG aO aK aI az,.str a1]=I (Iv v1,En):=uQ h2
 obtain⟨v3,h4,h⟩:=jy h
 have A1:jz pr (X pr) 178 [sl 4 zt aI,Iv v1,.fn (.func 236) [] [.ah (.fn (.func 176) [] [.ah (aT dl),.ah (.fn (.func 174) [] [.ah (aT da)])])]]=I (sl 4 zt v3,En):=jhi h4
 have hr:v3=r:=I.inj h
 subst hr
 rw[zh (show pr.bL 169=I nf from rfl) (by simp)]
 simp only[go_sem,seval,nf,rH,A1]<;>rfl
def f105 (a1:qm)(aO:Int)(aK:Option (List qj))(aI:Option (List qi))(az:Option (List qe)):Option (Int×(Option (List qj))×Bool):=
 jx (zp (a1.names.getD []) 0) fun v1=>
 jx (f72 (⟨aO,aK,aI,az⟩) v1) fun v3=>
 jx (f53 (decide (0≤v3)) 9) fun v5=>
 jx (zp (a1.values.getD []) 1) fun v7=>
 jx (f52 v7 1 10000) fun v9=>
 jx (f53 (decide (64≤((aK.getD []).length:Int))) 5) fun v11=>
 jx (f51 (I [v5,v9,v11])) fun eb=>
 cond (decide (eb=0))
  (jx (zp (a1.names.getD []) 1) fun dm=>
  jx (f164 aK (⟨v1,dm,v7,v7,En⟩)) fun gq=>
  I (0,gq,E3))
  (I (eb,aK,En))
theorem zat {a1:qm}{aO:Int}{aK:Option (List qj)}{aI:Option (List qi)}{az:Option (List qe)}{x1:qn}{x2:qn}{x3:qn}{r}(h:f105 a1 aO aK aI az=I r):zg pr (X pr) 105 [.ptr 0 0,aE a1] [kR aO aK aI az,x1,x2,x3]=I (Iv r.1,En,[kS aO r.2.1 r.2.2 aI En az En,x1,x2,x3]):=by
 unfold f105 at h
 rw[zh (show pr.bL 105=I sk from rfl) (by simp)]
 repeat' first|(replace h:=jy h;obtain⟨d,g,h⟩:=h; (with_reducible first|replace g:=D9 g|replace g:=gp g|replace g:=Ig g|replace g:=l5 g|replace g:=zbi g|skip);try dsimp only[y8,ly,E2,kw,qag,z8,zt,bh,y6,vev,aS,z6,dk,aE,aR,aU,aL,aP,aD]at g)|(replace h:=j6 h;rcases h with⟨g,h⟩|⟨g,h⟩)|fail
 all_goals (cases h<;>(simp only[go_sem,seval,sk,zn, *]<;>rfl))
def f106 (a1:qm)(aO:Int)(aK:Option (List qj))(aI:Option (List qi))(az:Option (List qe)):Option (Int×(Option (List qi))×Bool):=
 jx (zp (a1.names.getD []) 0) fun v1=>
 jx (f165 (⟨aO,aK,aI,az⟩) v1) fun v3=>
 jx (f53 (decide (0≤v3)) 9) fun v5=>
 jx (f53 (decide (16≤((aI.getD []).length:Int))) 5) fun v7=>
 jx (f51 (I [v5,v7])) fun v9=>
 cond (decide (v9=0))
  (jx (f166 aI (⟨v1,none,none,none⟩)) fun v12=>
  I (0,v12,E3))
  (I (v9,aI,En))
theorem zcn {a1:qm}{aO:Int}{aK:Option (List qj)}{aI:Option (List qi)}{az:Option (List qe)}{x1:qn}{x2:qn}{x3:qn}{r}(h:f106 a1 aO aK aI az=I r):zg pr (X pr) 106 [.ptr 0 0,aE a1] [kR aO aK aI az,x1,x2,x3]=I (Iv r.1,En,[kS aO aK En r.2.1 r.2.2 az En,x1,x2,x3]):=by
 unfold f106 at h
 rw[zh (show pr.bL 106=I sn from rfl) (by simp)]
 repeat' first|(replace h:=jy h;obtain⟨d,g,h⟩:=h; (with_reducible first|replace g:=uQ g|replace g:=gp g|replace g:=l5 g|replace g:=zbu g|skip);try dsimp only[y8,ly,E2,kw,qag,z8,zt,bh,y6,vev,aS,z6,dk,aE,aR,aU,aL,aP,aD]at g)|(replace h:=j6 h;rcases h with⟨g,h⟩|⟨g,h⟩)|fail
 all_goals (cases h<;>(simp only[go_sem,seval,sn,zn, *]<;>rfl))
def f107 (a1:qm)(aO:Int)(aK:Option (List qj))(aI:Option (List qi))(az:Option (List qe)):Option (Int×(Option (List qi))):=
 jx (zp (a1.names.getD []) 1) fun v1=>
 jx (zp (a1.values.getD []) 1) fun v3=>
 jx (zp (a1.names.getD []) 0) fun v5=>
 jx (f165 (⟨aO,aK,aI,az⟩) v5) fun v7=>
 jx (zp (aI.getD []) v7) fun v9=>
 jx (f52 v3 0 10000) fun v11=>
 cond (decide (0<v3))
  (jx (GN v9.dn v1) fun dz=>
  cond dz
   (jx (f53 En 5) fun fQ=>
   jx (f51 (I [v11,fQ])) fun ng=>
   cond (decide (ng=0))
    (jx (Au v5 v3 v1 v1 aO aK aI az) fun ea=>
    I (0,ea))
    (I (ng,aI)))
   (jx (f53 (decide (16≤((v9.dn.getD []).length:Int))) 5) fun v24=>
   jx (f51 (I [v11,v24])) fun eI=>
   cond (decide (eI=0))
    (jx (Au v5 v3 v1 v1 aO aK aI az) fun fk=>
    I (0,fk))
    (I (eI,aI))))
  (jx (f53 En 5) fun v31=>
  jx (f51 (I [v11,v31])) fun vP=>
  cond (decide (vP=0))
   (jx (Au v5 v3 v1 v1 aO aK aI az) fun xR=>
   I (0,xR))
   (I (vP,aI)))
theorem za4 {a1:qm}{aO:Int}{aK:Option (List qj)}{aI:Option (List qi)}{az:Option (List qe)}{x1:qn}{x2:qn}{x3:qn}{r}(h:f107 a1 aO aK aI az=I r):zg pr (X pr) 107 [.ptr 0 0,aE a1] [kR aO aK aI az,x1,x2,x3]=I (Iv r.1,En,[kR aO aK r.2 az,x1,x2,x3]):=by
 unfold f107 at h
 rw[zh (show pr.bL 107=I su from rfl) (by simp)]
 repeat' first|(replace h:=jy h;obtain⟨d,g,h⟩:=h; (with_reducible first|replace g:=uQ g|replace g:=Ig g|replace g:=j1i g|replace g:=gp g|replace g:=l5 g|replace g:=j5v (x1:=x1) (x2:=x2) (x3:=x3) g|skip);try dsimp only[y8,ly,E2,kw,qag,z8,zt,bh,y6,vev,aS,z6,dk,aE,aR,aU,aL,aP,aD]at g)|(replace h:=j6 h;rcases h with⟨g,h⟩|⟨g,h⟩)|fail
 all_goals (cases h<;>(simp only[go_sem,seval,su,zn, *]<;>rfl))
def f108 (a1:qm)(aO:Int)(aK:Option (List qj))(aI:Option (List qi))(az:Option (List qe)):Option (Int×(Option (List qi))):=
 jx (zp (a1.names.getD []) 1) fun v1=>
 jx (zp (a1.values.getD []) 1) fun v3=>
 jx (zp (a1.values.getD []) 2) fun v5=>
 jx (zp (a1.names.getD []) 0) fun v7=>
 jx (f165 (⟨aO,aK,aI,az⟩) v7) fun v9=>
 jx (zp (aI.getD []) v9) fun v11=>
 jx (f53 (decide (v5<v3)) 11) fun eb=>
 jx (GU v11.dt (⟨v1,v3,v5⟩)) fun eY=>
 cond eY
  (jx (f53 En 5) fun gq=>
  jx (f51 (I [eb,gq])) fun v20=>
  cond (decide (v20=0))
   (jx (DS v7 (⟨v1,v3,v5⟩) (⟨v1,v3,v5⟩) aO aK aI az) fun kC=>
   I (0,kC))
   (I (v20,aI)))
  (jx (f53 (decide (16≤((v11.dt.getD []).length:Int))) 5) fun uR=>
  jx (f51 (I [eb,uR])) fun sw=>
  cond (decide (sw=0))
   (jx (DS v7 (⟨v1,v3,v5⟩) (⟨v1,v3,v5⟩) aO aK aI az) fun v30=>
   I (0,v30))
   (I (sw,aI)))
theorem zdk {a1:qm}{aO:Int}{aK:Option (List qj)}{aI:Option (List qi)}{az:Option (List qe)}{x1:qn}{x2:qn}{x3:qn}{r}(h:f108 a1 aO aK aI az=I r):zg pr (X pr) 108 [.ptr 0 0,aE a1] [kR aO aK aI az,x1,x2,x3]=I (Iv r.1,En,[kR aO aK r.2 az,x1,x2,x3]):=by
 unfold f108 at h
 rw[zh (show pr.bL 108=I sx from rfl) (by simp)]
 repeat' first|(replace h:=jy h;obtain⟨d,g,h⟩:=h; (with_reducible first|replace g:=uQ g|replace g:=gp g|replace g:=j5b g|replace g:=l5 g|replace g:=j5m (x1:=x1) (x2:=x2) (x3:=x3) g|skip);try dsimp only[y8,ly,E2,kw,qag,z8,zt,bh,y6,vev,aS,z6,dk,aE,aR,aU,aL,aP,aD]at g)|(replace h:=j6 h;rcases h with⟨g,h⟩|⟨g,h⟩)|fail
 all_goals (cases h<;>(simp only[go_sem,seval,sx,zn, *]<;>rfl))
def f109 (a1:qm)(aO:Int)(aK:Option (List qj))(aI:Option (List qi))(az:Option (List qe)):Option (Int×(Option (List qi))):=
 jx (zp (a1.names.getD []) 0) fun v1=>
 jx (f165 (⟨aO,aK,aI,az⟩) v1) fun v3=>
 jx (zp (aI.getD []) v3) fun v5=>
 jx (f53 (decide (((v5.dn.getD []).length:Int)=0)) 12) fun v7=>
 jx (f53 (decide (100≤((v5.aH.getD []).length:Int))) 5) fun v9=>
 jx (f51 (I [v7,v9])) fun v11=>
 cond (decide (v11=0))
  (jx (Nx aI v3) fun dz=>
  I (0,dz))
  (I (v11,aI))
theorem j9s {a1:qm}{aO:Int}{aK:Option (List qj)}{aI:Option (List qi)}{az:Option (List qe)}{x1:qn}{x2:qn}{x3:qn}{r}(h:f109 a1 aO aK aI az=I r):zg pr (X pr) 109 [.ptr 0 0,aE a1] [kR aO aK aI az,x1,x2,x3]=I (Iv r.1,En,[kR aO aK r.2 az,x1,x2,x3]):=by
 unfold f109 at h
 rw[zh (show pr.bL 109=I sA from rfl) (by simp)]
 repeat' first|(replace h:=jy h;obtain⟨d,g,h⟩:=h; (with_reducible first|replace g:=uQ g|replace g:=gp g|replace g:=l5 g|replace g:=jjc g|skip);try dsimp only[y8,ly,E2,kw,qag,z8,zt,bh,y6,vev,aS,z6,dk,aE,aR,aU,aL,aP,aD]at g)|(replace h:=j6 h;rcases h with⟨g,h⟩|⟨g,h⟩)|fail
 all_goals (cases h<;>(simp only[go_sem,seval,sA,zn, *]<;>rfl))
def f110 (a1:qm)(aO:Int)(aK:Option (List qj))(aI:Option (List qi))(az:Option (List qe)):Option (Int×(Option (List qe))×Bool):=
 jx (zp (a1.names.getD []) 1) fun v1=>
 jx (f165 (⟨aO,aK,aI,az⟩) v1) fun v3=>
 jx (zp (aI.getD []) v3) fun v5=>
 jx (f182 v5) fun v7=>
 jx (zp (a1.names.getD []) 0) fun v9=>
 jx (f93 (⟨aO,aK,aI,az⟩) v9) fun v11=>
 jx (f53 (decide (0≤v11)) 9) fun eb=>
 jx (f53 (decide (v7=0)) 32) fun eY=>
 jx (f53 (decide (256≤((az.getD []).length:Int))) 5) fun fQ=>
 jx (f51 (I [eb,eY,fQ])) fun ng=>
 cond (decide (ng=0))
  (jx (f183 az (⟨v9,v1,v7,none,none,[],En,0⟩)) fun ea=>
  I (0,ea,E3))
  (I (ng,az,En))
theorem zhv {a1:qm}{aO:Int}{aK:Option (List qj)}{aI:Option (List qi)}{az:Option (List qe)}{x1:qn}{x2:qn}{x3:qn}{r}(h:f110 a1 aO aK aI az=I r):zg pr (X pr) 110 [.ptr 0 0,aE a1] [kR aO aK aI az,x1,x2,x3]=I (Iv r.1,En,[kS aO aK En aI En r.2.1 r.2.2,x1,x2,x3]):=by
 unfold f110 at h
 rw[zh (show pr.bL 110=I sB from rfl) (by simp)]
 repeat' first|(replace h:=jy h;obtain⟨d,g,h⟩:=h; (with_reducible first|replace g:=uQ g|replace g:=jtj g|replace g:=xS g|replace g:=gp g|replace g:=l5 g|replace g:=j9z g|skip);try dsimp only[y8,ly,E2,kw,qag,z8,zt,bh,y6,vev,aS,z6,dk,aE,aR,aU,aL,aP,aD]at g)|(replace h:=j6 h;rcases h with⟨g,h⟩|⟨g,h⟩)|fail
 all_goals (cases h<;>(simp only[go_sem,seval,sB,zn, *]<;>rfl))
def f112 (a1:qm)(aO:Int)(aK:Option (List qj))(aI:Option (List qi))(az:Option (List qe)):Option (Int×(Option (List qe))):=
 jx (zp (a1.names.getD []) 0) fun v1=>
 jx (f93 (⟨aO,aK,aI,az⟩) v1) fun v3=>
 jx (zp (az.getD []) v3) fun v5=>
 jx (f134 (⟨aO,aK,aI,az⟩) v5) fun v7=>
 jx (GV v7.aw a1) fun v9=>
 jx (f53 v5.ar 21) fun v11=>
 jx (f53 (!v9) 7) fun eb=>
 jx (f53 (decide (64≤((v5.results.getD []).length:Int))) 5) fun eY=>
 jx (f51 (I [v11,eb,eY])) fun fQ=>
 cond (decide (fQ=0))
  (jx (Vo az v3 a1) fun v20=>
  I (0,v20))
  (I (fQ,az))
theorem j9q {a1:qm}{aO:Int}{aK:Option (List qj)}{aI:Option (List qi)}{az:Option (List qe)}{x1:qn}{x2:qn}{x3:qn}{r}(h:f112 a1 aO aK aI az=I r):zg pr (X pr) 112 [.ptr 0 0,aE a1] [kR aO aK aI az,x1,x2,x3]=I (Iv r.1,En,[kR aO aK aI r.2,x1,x2,x3]):=by
 unfold f112 at h
 rw[zh (show pr.bL 112=I sC from rfl) (by simp)]
 repeat' first|(replace h:=jy h;obtain⟨d,g,h⟩:=h; (with_reducible first|replace g:=xS g|replace g:=NY g|replace g:=j30 g|replace g:=gp g|replace g:=l5 g|replace g:=jjd g|skip);try dsimp only[y8,ly,E2,kw,qag,z8,zt,bh,y6,vev,aS,z6,dk,aE,aR,aU,aL,aP,aD]at g)|(replace h:=j6 h;rcases h with⟨g,h⟩|⟨g,h⟩)|fail
 all_goals (cases h<;>(simp only[go_sem,seval,sC,zn, *]<;>rfl))
def f113 (a1:qm)(aO:Int)(aK:Option (List qj))(aI:Option (List qi))(az:Option (List qe)):Option (Int×(Option (List qe))):=
 jx (zp (a1.names.getD []) 0) fun v1=>
 jx (f93 (⟨aO,aK,aI,az⟩) v1) fun v3=>
 jx (zp (az.getD []) v3) fun v5=>
 jx (f140 (⟨aO,aK,aI,az⟩) v5) fun v7=>
 jx (f53 v5.ar 21) fun v9=>
 jx (f53 (decide (v5.version=v7)) 32) fun v11=>
 jx (f51 (I [v9,v11])) fun eb=>
 cond (decide (eb=0))
  (jx (Vl az v3 v7) fun dm=>
  I (0,dm))
  (I (eb,az))
theorem zc2 {a1:qm}{aO:Int}{aK:Option (List qj)}{aI:Option (List qi)}{az:Option (List qe)}{x1:qn}{x2:qn}{x3:qn}{r}(h:f113 a1 aO aK aI az=I r):zg pr (X pr) 113 [.ptr 0 0,aE a1] [kR aO aK aI az,x1,x2,x3]=I (Iv r.1,En,[kR aO aK aI r.2,x1,x2,x3]):=by
 unfold f113 at h
 rw[zh (show pr.bL 113=I sD from rfl) (by simp)]
 repeat' first|(replace h:=jy h;obtain⟨d,g,h⟩:=h; (with_reducible first|replace g:=xS g|replace g:=jou g|replace g:=gp g|replace g:=l5 g|replace g:=jgr g|skip);try dsimp only[y8,ly,E2,kw,qag,z8,zt,bh,y6,vev,aS,z6,dk,aE,aR,aU,aL,aP,aD]at g)|(replace h:=j6 h;rcases h with⟨g,h⟩|⟨g,h⟩)|fail
 all_goals (cases h<;>(simp only[go_sem,seval,sD,zn, *]<;>rfl))
def f114 (a1:qm)(aO:Int)(aK:Option (List qj))(aI:Option (List qi))(az:Option (List qe)):Option (Int×(Option (List qe))):=
 jx (zp (a1.names.getD []) 0) fun v1=>
 jx (f93 (⟨aO,aK,aI,az⟩) v1) fun v3=>
 jx (zp (a1.names.getD []) 1) fun v5=>
 jx (f93 (⟨aO,aK,aI,az⟩) v5) fun v7=>
 jx (zp (az.getD []) v3) fun v9=>
 jx (zp (az.getD []) v7) fun v11=>
 jx (f53 (decide (v3=v7)) 9) fun eb=>
 cond (decide (v9.product=v11.product))
  (jx (f53 (!decide (v9.version=v11.version)) 30) fun dm=>
  cond v9.ar
   (jx (f53 E3 21) fun ng=>
   cond (decide (v9.partner=[]))
    (jx (f53 (!decide (v11.partner=[])) 35) fun ea=>
    jx (f51 (I [eb,dm,ng,ea])) fun v24=>
    cond (decide (v24=0))
     (jx (uF az v3 v11) fun sw=>
     jx (uG sw v7 (⟨v9.name,v9.product,v9.version,v9.uses,v9.results,v9.partner,E3,v9.ai⟩)) fun fk=>
     I (0,fk))
     (I (v24,az)))
    (jx (f53 E3 35) fun v31=>
    jx (f51 (I [eb,dm,ng,v31])) fun vP=>
    cond (decide (vP=0))
     (jx (uF az v3 v11) fun xR=>
     jx (uG xR v7 (⟨v9.name,v9.product,v9.version,v9.uses,v9.results,v9.partner,E3,v9.ai⟩)) fun rX=>
     I (0,rX))
     (I (vP,az))))
   (jx (f53 v11.ar 21) fun v40=>
   cond (decide (v9.partner=[]))
    (jx (f53 (!decide (v11.partner=[])) 35) fun pg=>
    jx (f51 (I [eb,dm,v40,pg])) fun xQ=>
    cond (decide (xQ=0))
     (jx (uF az v3 v11) fun HW=>
     jx (uG HW v7 (⟨v9.name,v9.product,v9.version,v9.uses,v9.results,v9.partner,En,v9.ai⟩)) fun v50=>
     I (0,v50))
     (I (xQ,az)))
    (jx (f53 E3 35) fun v52=>
    jx (f51 (I [eb,dm,v40,v52])) fun NZ=>
    cond (decide (NZ=0))
     (jx (uF az v3 v11) fun N0=>
     jx (uG N0 v7 (⟨v9.name,v9.product,v9.version,v9.uses,v9.results,v9.partner,En,v9.ai⟩)) fun v59=>
     I (0,v59))
     (I (NZ,az)))))
  (jx (f53 E3 30) fun vV=>
  cond v9.ar
   (jx (f53 E3 21) fun v64=>
   cond (decide (v9.partner=[]))
    (jx (f53 (!decide (v11.partner=[])) 35) fun v67=>
    jx (f51 (I [eb,vV,v64,v67])) fun v69=>
    cond (decide (v69=0))
     (jx (uF az v3 v11) fun v72=>
     jx (uG v72 v7 (⟨v9.name,v9.product,v9.version,v9.uses,v9.results,v9.partner,E3,v9.ai⟩)) fun Wl=>
     I (0,Wl))
     (I (v69,az)))
    (jx (f53 E3 35) fun v76=>
    jx (f51 (I [eb,vV,v64,v76])) fun N1=>
    cond (decide (N1=0))
     (jx (uF az v3 v11) fun v81=>
     jx (uG v81 v7 (⟨v9.name,v9.product,v9.version,v9.uses,v9.results,v9.partner,E3,v9.ai⟩)) fun Wm=>
     I (0,Wm))
     (I (N1,az))))
   (jx (f53 v11.ar 21) fun v85=>
   cond (decide (v9.partner=[]))
    (jx (f53 (!decide (v11.partner=[])) 35) fun Wn=>
    jx (f51 (I [eb,vV,v85,Wn])) fun N2=>
    cond (decide (N2=0))
     (jx (uF az v3 v11) fun v93=>
     jx (uG v93 v7 (⟨v9.name,v9.product,v9.version,v9.uses,v9.results,v9.partner,En,v9.ai⟩)) fun Wo=>
     I (0,Wo))
     (I (N2,az)))
    (jx (f53 E3 35) fun Wp=>
    jx (f51 (I [eb,vV,v85,Wp])) fun N3=>
    cond (decide (N3=0))
     (jx (uF az v3 v11) fun Wq=>
     jx (uG Wq v7 (⟨v9.name,v9.product,v9.version,v9.uses,v9.results,v9.partner,En,v9.ai⟩)) fun Wr=>
     I (0,Wr))
     (I (N3,az)))))
theorem ze1 {a1:qm}{aO:Int}{aK:Option (List qj)}{aI:Option (List qi)}{az:Option (List qe)}{x1:qn}{x2:qn}{x3:qn}{r}(h:f114 a1 aO aK aI az=I r):zg pr (X pr) 114 [.ptr 0 0,aE a1] [kR aO aK aI az,x1,x2,x3]=I (Iv r.1,En,[kR aO aK aI r.2,x1,x2,x3]):=by
 unfold f114 at h
 rw[zh (show pr.bL 114=I sE from rfl) (by simp)]
 repeat' first|(replace h:=jy h;obtain⟨d,g,h⟩:=h; (with_reducible first|replace g:=xS g|replace g:=gp g|replace g:=l5 g|replace g:=jgy g|replace g:=jeo g|skip);try dsimp only[y8,ly,E2,kw,qag,z8,zt,bh,y6,vev,aS,z6,dk,aE,aR,aU,aL,aP,aD]at g)|(replace h:=j6 h;rcases h with⟨g,h⟩|⟨g,h⟩)|fail
 all_goals (cases h<;>(simp only[go_sem,seval,sE,zn, *]<;>rfl))
def f115 (a1:qm)(aO:Int)(aK:Option (List qj))(aI:Option (List qi))(az:Option (List qe)):Option (Int×(Option (List qj))):=
 jx (zp (a1.names.getD []) 0) fun v1=>
 jx (f72 (⟨aO,aK,aI,az⟩) v1) fun v3=>
 jx (zp (aK.getD []) v3) fun v5=>
 cond v5.held
  (I (34,aK))
  (jx (Vi aK v3) fun v8=>
  I (0,v8))
theorem zcr {a1:qm}{aO:Int}{aK:Option (List qj)}{aI:Option (List qi)}{az:Option (List qe)}{x1:qn}{x2:qn}{x3:qn}{r}(h:f115 a1 aO aK aI az=I r):zg pr (X pr) 115 [.ptr 0 0,aE a1] [kR aO aK aI az,x1,x2,x3]=I (Iv r.1,En,[kR aO r.2 aI az,x1,x2,x3]):=by
 unfold f115 at h
 rw[zh (show pr.bL 115=I sF from rfl) (by simp)]
 repeat' first|(replace h:=jy h;obtain⟨d,g,h⟩:=h;with_reducible first|replace g:=D9 g|replace g:=jdx g|skip)|(replace h:=j6 h;rcases h with⟨g,h⟩|⟨g,h⟩)|fail
 all_goals (cases h<;>(simp only[go_sem,seval,sF,zn, *]<;>rfl))
def f116 (a1:qm)(aO:Int)(aK:Option (List qj))(aI:Option (List qi))(az:Option (List qe)):Option (Int×(Option (List qj))):=
 jx (zp (a1.names.getD []) 0) fun v1=>
 jx (f72 (⟨aO,aK,aI,az⟩) v1) fun v3=>
 jx (zp (aK.getD []) v3) fun v5=>
 cond v5.held
  (jx (Vj aK v3) fun v8=>
  I (0,v8))
  (I (20,aK))
theorem zaz {a1:qm}{aO:Int}{aK:Option (List qj)}{aI:Option (List qi)}{az:Option (List qe)}{x1:qn}{x2:qn}{x3:qn}{r}(h:f116 a1 aO aK aI az=I r):zg pr (X pr) 116 [.ptr 0 0,aE a1] [kR aO aK aI az,x1,x2,x3]=I (Iv r.1,En,[kR aO r.2 aI az,x1,x2,x3]):=by
 unfold f116 at h
 rw[zh (show pr.bL 116=I sG from rfl) (by simp)]
 repeat' first|(replace h:=jy h;obtain⟨d,g,h⟩:=h;with_reducible first|replace g:=D9 g|replace g:=jg9 g|skip)|(replace h:=j6 h;rcases h with⟨g,h⟩|⟨g,h⟩)|fail
 all_goals (cases h<;>(simp only[go_sem,seval,sG,zn, *]<;>rfl))
def f118 (a1:qm)(aO:Int)(aK:Option (List qj))(aI:Option (List qi))(az:Option (List qe)):Option (Int×(Option (List qe))):=
 jx (zp (a1.names.getD []) 0) fun v1=>
 jx (f93 (⟨aO,aK,aI,az⟩) v1) fun v3=>
 jx (zp (az.getD []) v3) fun v5=>
 cond v5.ar
  (jx (Vn az v3) fun v8=>
  I (0,v8))
  (I (20,az))
theorem zav {a1:qm}{aO:Int}{aK:Option (List qj)}{aI:Option (List qi)}{az:Option (List qe)}{x1:qn}{x2:qn}{x3:qn}{r}(h:f118 a1 aO aK aI az=I r):zg pr (X pr) 118 [.ptr 0 0,aE a1] [kR aO aK aI az,x1,x2,x3]=I (Iv r.1,En,[kR aO aK aI r.2,x1,x2,x3]):=by
 unfold f118 at h
 rw[zh (show pr.bL 118=I sH from rfl) (by simp)]
 repeat' first|(replace h:=jy h;obtain⟨d,g,h⟩:=h;with_reducible first|replace g:=xS g|replace g:=jh2 g|skip)|(replace h:=j6 h;rcases h with⟨g,h⟩|⟨g,h⟩)|fail
 all_goals (cases h<;>(simp only[go_sem,seval,sH,zn, *]<;>rfl))
end Go.Z
namespace Go.Z
open Go Go.Abs Go.W
def f111 (a1:qm)(aO:Int)(aK:Option (List qj))(aI:Option (List qi))(az:Option (List qe)):Option (Int×(Option (List qj))×(Option (List qe))):=
 jx (zp (a1.names.getD []) 0) fun v1=>
 jx (f93 (⟨aO,aK,aI,az⟩) v1) fun v3=>
 jx (zp (a1.names.getD []) 1) fun v5=>
 jx (f72 (⟨aO,aK,aI,az⟩) v5) fun v7=>
 jx (zp (a1.values.getD []) 1) fun v9=>
 jx (zp (az.getD []) v3) fun v11=>
 jx (zp (aK.getD []) v7) fun eb=>
 jx (f134 (⟨aO,aK,aI,az⟩) v11) fun eY=>
 jx (GQ eY.ax eb) fun fQ=>
 jx (f53 v11.ar 21) fun ng=>
 jx (f53 (decide (v9=0)) 3) fun v21=>
 jx (f53 eb.held 34) fun kC=>
 jx (f53 (!fQ) 7) fun uR=>
 jx (f53 (decide (eb.left<v9)) 4) fun sw=>
 jx (f51 (I [ng,v21,kC,uR,sw])) fun fk=>
 cond (decide (fk=0))
  (jx (Vp aK v7 v9) fun kM=>
  jx (f188 v11.uses eb) fun N4=>
  cond (decide (0≤N4))
   (jx (zp (v11.uses.getD []) N4) fun v37=>
   jx (fL az v3 (DV ⟨eb.name,j9 .i64 (v9+v37.n)⟩ eb)) fun us=>I (fk,kM,us))
   (jx (fL az v3 (DV ⟨eb.name,v9⟩ eb)) fun us=>I (fk,kM,us)))
  (I (fk,aK,az))
theorem zhh {a1:qm}{aO:Int}{aK:Option (List qj)}{aI:Option (List qi)}{az:Option (List qe)}{x1 x2 x3:qn}{r}(h:f111 a1 aO aK aI az=I r):
  (r.1≠0∧r.2=(aK,az)∧zg pr (X pr) 111 [.ptr 0 0,aE a1] [kR aO aK aI az,x1,x2,x3]=I (Iv r.1,En,[kR aO aK aI az,x1,x2,x3])) ∨
  (r.1=0∧∃(n:Nat) (b:qn) (cs:List (qa×Bool)),zg pr (X pr) 111 [.ptr 0 0,aE a1] [kR aO aK aI az,x1,x2,x3]=I (Iv 0,En,[.cells [(Iv aO,En),(sl 5 z8 r.2.1,En),(sl 4 zt aI,En),(.ms 5 0 n,En)],x1,x2,x3,b,.cells cs])∧cs.map (·.1)=yu bh (r.2.2.getD [])∧n=(r.2.2.getD []).length∧0<n):=by
 unfold f111 at h
 obtain⟨v1,h2,h⟩:=jy h
 obtain⟨v3,h4,h⟩:=jy h
 have A1:jz pr (X pr) 93 [aG aO aK aI az,.str v1]=I (Iv v3,En):=xS h4
 obtain⟨v5,h6,h⟩:=jy h
 obtain⟨v7,h8,h⟩:=jy h
 have Ws:jz pr (X pr) 72 [aG aO aK aI az,.str v5]=I (Iv v7,En):=D9 h8
 obtain⟨v9,lD,h⟩:=jy h
 obtain⟨v11,lE,h⟩:=jy h
 obtain⟨eb,mT,h⟩:=jy h
 obtain⟨eY,oo,h⟩:=jy h
 have A2:jz pr (X pr) 134 [aG aO aK aI az,aU v11]=I (aD eY,En):=NY oo
 obtain⟨fQ,Hv,h⟩:=jy h
 have A3:jz pr (X pr) 168 [sl 2 aS eY.ax,.fn (.func 184) [] [.ah (aL eb)]]=I (.bool fQ,En):=jzv Hv
 obtain⟨ng,FP,h⟩:=jy h
 have A4:jz pr (X pr) 53 [.bool v11.ar,Iv 21]=I (Iv ng,En):=gp FP
 obtain⟨v21,FQ,h⟩:=jy h
 have A5:jz pr (X pr) 53 [.bool (decide (v9=0)),Iv 3]=I (Iv v21,En):=gp FQ
 obtain⟨kC,FR,h⟩:=jy h
 have A6:jz pr (X pr) 53 [.bool eb.held,Iv 34]=I (Iv kC,En):=gp FR
 obtain⟨uR,Hw,h⟩:=jy h
 have A7:jz pr (X pr) 53 [.bool (!fQ),Iv 7]=I (Iv uR,En):=gp Hw
 obtain⟨sw,Hx,h⟩:=jy h
 have A8:jz pr (X pr) 53 [.bool (decide (eb.left<v9)),Iv 4]=I (Iv sw,En):=gp Hx
 obtain⟨fk,Hy,h⟩:=jy h
 have Ba:jz pr (X pr) 51 [.list En 1 [Iv ng,Iv v21,Iv kC,Iv uR,Iv sw]]=I (Iv fk,En):=l5 Hy
 rcases j6 h with⟨qS,h⟩|⟨qS,h⟩
 ·obtain⟨kM,h33,h⟩:=jy h
  have IE:jz pr (X pr) 185 [sl 5 z8 aK,Iv v7,.fn (.func 186) [] [.ah (Iv v9)]]=I (sl 5 z8 kM,En):=jgu h33
  obtain⟨N4,Wt,h⟩:=jy h
  have IF:jz pr (X pr) 188 [sl 2 aS v11.uses,.fn (.func 187) [] [.ah (aL eb)]]=I (Iv N4,En):=jsr Wt
  rcases j6 h with⟨IG,h⟩|⟨IG,h⟩
  ·obtain⟨v37,h38,h⟩:=jy h
   obtain⟨us,hu,h⟩:=jy h
   cases h
   obtain⟨n,x,y,rfl,hl,hx,hy,rfl⟩:=xP hu
   obtain⟨cs,g1,g2⟩:=jrp (b0:=(kR aO kM aI az)) (b1:=x1) (b2:=x2) (b3:=x3) hx hy
   have w:=jjy hl (E1.1 hx).1 g1
   simp only[q0u]at w
   refine .inr ⟨of_decide_eq_true qS,(az.getD []).length,.cells [(.str eb.name,En),(Iv (j9 .i64 (v9+v37.n)),En)],cs,?_,g2,by simp,by have:=(E1.1 hx).1;omega⟩
   rw[zh (show pr.bL 111=I kD from rfl) (by simp)]
   simp only[go_sem,seval,kD,ko h2,A1,ko h6,Ws,ko lD,ko lE,ko mT,A2,A3,A4,A5,A6,A7,A8,Ba,qS,IE,IF,IG,ko h38,w,(show ∀n,below 5 (.ms 5 0 n)=En from fun _=>rfl),E4,cond_false]
  ·obtain⟨us,hu,h⟩:=jy h
   cases h
   obtain⟨n,x,y,rfl,hl,hx,hy,rfl⟩:=xP hu
   obtain⟨cs,g1,g2⟩:=jrp (b0:=(kR aO kM aI az)) (b1:=x1) (b2:=x2) (b3:=x3) hx hy
   have w:=jjy hl (E1.1 hx).1 g1
   simp only[q0u]at w
   refine .inr ⟨of_decide_eq_true qS,(az.getD []).length,.cells [(.str eb.name,En),(Iv v9,En)],cs,?_,g2,by simp,by have:=(E1.1 hx).1;omega⟩
   rw[zh (show pr.bL 111=I kD from rfl) (by simp)]
   simp only[go_sem,seval,kD,ko h2,A1,ko h6,Ws,ko lD,ko lE,ko mT,A2,A3,A4,A5,A6,A7,A8,Ba,qS,IE,IF,IG,w,(show ∀n,below 5 (.ms 5 0 n)=En from fun _=>rfl),E4,cond_false]
 ·cases h
  refine .inl ⟨of_decide_eq_false qS,rfl,?_⟩
  rw[zh (show pr.bL 111=I kD from rfl) (by simp)]
  simp only[go_sem,seval,kD,ko h2,A1,ko h6,Ws,ko lD,ko lE,ko mT,A2,A3,A4,A5,A6,A7,A8,Ba,qS]<;>rfl
end Go.Z
end
