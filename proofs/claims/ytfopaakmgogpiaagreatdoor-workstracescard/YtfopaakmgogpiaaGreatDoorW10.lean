/- Chapter 10. -/
import Derived.Test.YtfopaakmgogpiaaGreatDoorV3
set_option linter.unusedVariables false
set_option linter.unusedSimpArgs false
set_option maxRecDepth 100000
set_option maxHeartbeats 4000000
noncomputable section
open Option renaming some→I
open Bool renaming false→Eh,true→Eo,false_and→E5
open List renaming getElem?_eq_some_iff→El,map→En
namespace Go.Z
open Go Go.Abs Go.W
def AX (a1:List UInt8)(dm:Int)(db:List UInt8)(wG:List UInt8)(aM:Int)(aJ:Option (List qj))(aH:Option (List qn))(ay:Option (List qe)):Option (Option (List qn)):=
 jx (f165 (⟨aM,aJ,aH,ay⟩) a1) fun v1=>
 jx (Vc aH v1 dm db wG) fun v3=>
 I v3
theorem j41 {a1:List UInt8}{dm:Int}{db:List UInt8}{wG:List UInt8}{aM:Int}{aJ:Option (List qj)}{aH:Option (List qn)}{ay:Option (List qe)}{x1:qm}{x2:qm}{x3:qm}{r}(h:AX a1 dm db wG aM aJ aH ay=I r):zg pr (X pr) 169 [.ptr 0 0,.str a1,.fn (.func 170) [] [.ah (Iv dm),.ah (.fn (.func 167) [] [.ah (.str db)]),.ah (.str wG)]] [kR aM aJ aH ay,x1,x2,x3]=I (.az [],Eh,[kR aM aJ r ay,x1,x2,x3]):=by
 unfold AX at h
 rw[zh (show pr.bH 169=I nh from rfl) (by simp)]
 repeat' first|(replace h:=jy h;obtain⟨d,g,h⟩:=h;with_reducible first|replace g:=vm g|replace g:=jia g|skip)|(replace h:=j6 h;rcases h with⟨g,h⟩|⟨g,h⟩)|fail
 all_goals (cases h<;>(simp only[go_sem,seval,nh, *]<;>rfl))
def Ec (a1:List UInt8)(dm:qi)(db:qi)(aM:Int)(aJ:Option (List qj))(aH:Option (List qn))(ay:Option (List qe)):Option (Option (List qn)):=
 jx (f165 (⟨aM,aJ,aH,ay⟩) a1) fun v1=>
 jx (Vd aH v1 dm db) fun v3=>
 I v3
theorem jye {a1:List UInt8}{dm:qi}{db:qi}{aM:Int}{aJ:Option (List qj)}{aH:Option (List qn)}{ay:Option (List qe)}{x1:qm}{x2:qm}{x3:qm}{r}(h:Ec a1 dm db aM aJ aH ay=I r):zg pr (X pr) 169 [.ptr 0 0,.str a1,.fn (.func 176) [] [.ah (aT dm),.ah (.fn (.func 174) [] [.ah (aT db)])]] [kR aM aJ aH ay,x1,x2,x3]=I (.az [],Eh,[kR aM aJ r ay,x1,x2,x3]):=by
 unfold Ec at h
 obtain⟨v1,h2,h⟩:=jy h
 have rS:jz pr (X pr) 165 [aG aM aJ aH ay,.str a1]=I (Iv v1,Eh):=vm h2
 obtain⟨v3,h4,h⟩:=jy h
 have Bk:jz pr (X pr) 178 [sl 4 zu aH,Iv v1,.fn (.func 236) [] [.ah (.fn (.func 176) [] [.ah (aT dm),.ah (.fn (.func 174) [] [.ah (aT db)])])]]=I (sl 4 zu v3,Eh):=jhq h4
 have hr:v3=r:=I.inj h
 subst hr
 rw[zh (show pr.bH 169=I nh from rfl) (by simp)]
 simp only[go_sem,seval,nh,rS,Bk]<;>rfl
def f105 (a1:ql)(aM:Int)(aJ:Option (List qj))(aH:Option (List qn))(ay:Option (List qe)):Option (Int×(Option (List qj))×Bool):=
 jx (zq (a1.names.getD []) 0) fun v1=>
 jx (f72 (⟨aM,aJ,aH,ay⟩) v1) fun v3=>
 jx (f53 (decide (0≤v3)) 9) fun v5=>
 jx (zq (a1.values.getD []) 1) fun v7=>
 jx (f52 v7 1 10000) fun v9=>
 jx (f53 (decide (64≤((aJ.getD []).length:Int))) 5) fun v11=>
 jx (f51 (I [v5,v9,v11])) fun dq=>
 cond (decide (dq=0))
  (jx (zq (a1.names.getD []) 1) fun dE=>
  jx (f164 aJ (⟨v1,dE,v7,v7,Eh⟩)) fun iP=>
  I (0,iP,Eo))
  (I (dq,aJ,Eh))
theorem j95 {a1:ql}{aM:Int}{aJ:Option (List qj)}{aH:Option (List qn)}{ay:Option (List qe)}{x1:qm}{x2:qm}{x3:qm}{r}(h:f105 a1 aM aJ aH ay=I r):zg pr (X pr) 105 [.ptr 0 0,aE a1] [kR aM aJ aH ay,x1,x2,x3]=I (Iv r.1,Eh,[kS aM r.2.1 r.2.2 aH Eh ay Eh,x1,x2,x3]):=by
 unfold f105 at h
 rw[zh (show pr.bH 105=I sG from rfl) (by simp)]
 repeat' first|(replace h:=jy h;obtain⟨d,g,h⟩:=h; (with_reducible first|replace g:=Bl g|replace g:=fB g|replace g:=N9 g|replace g:=lK g|replace g:=zhz g|skip);try dsimp only[ki,jN,En,kn,yp,z8,zu,bf,y8,vev,aV,zz,dp,aE,aR,aU,aL,aP,aD]at g)|(replace h:=j6 h;rcases h with⟨g,h⟩|⟨g,h⟩)|fail
 all_goals (cases h<;>(simp only[go_sem,seval,sG,zn, *]<;>rfl))
def f106 (a1:ql)(aM:Int)(aJ:Option (List qj))(aH:Option (List qn))(ay:Option (List qe)):Option (Int×(Option (List qn))×Bool):=
 jx (zq (a1.names.getD []) 0) fun v1=>
 jx (f165 (⟨aM,aJ,aH,ay⟩) v1) fun v3=>
 jx (f53 (decide (0≤v3)) 9) fun v5=>
 jx (f53 (decide (16≤((aH.getD []).length:Int))) 5) fun v7=>
 jx (f51 (I [v5,v7])) fun v9=>
 cond (decide (v9=0))
  (jx (f166 aH (⟨v1,none,none,none⟩)) fun v12=>
  I (0,v12,Eo))
  (I (v9,aH,Eh))
theorem zh1 {a1:ql}{aM:Int}{aJ:Option (List qj)}{aH:Option (List qn)}{ay:Option (List qe)}{x1:qm}{x2:qm}{x3:qm}{r}(h:f106 a1 aM aJ aH ay=I r):zg pr (X pr) 106 [.ptr 0 0,aE a1] [kR aM aJ aH ay,x1,x2,x3]=I (Iv r.1,Eh,[kS aM aJ Eh r.2.1 r.2.2 ay Eh,x1,x2,x3]):=by
 unfold f106 at h
 rw[zh (show pr.bH 106=I sH from rfl) (by simp)]
 repeat' first|(replace h:=jy h;obtain⟨d,g,h⟩:=h; (with_reducible first|replace g:=vm g|replace g:=fB g|replace g:=lK g|replace g:=j9h g|skip);try dsimp only[ki,jN,En,kn,yp,z8,zu,bf,y8,vev,aV,zz,dp,aE,aR,aU,aL,aP,aD]at g)|(replace h:=j6 h;rcases h with⟨g,h⟩|⟨g,h⟩)|fail
 all_goals (cases h<;>(simp only[go_sem,seval,sH,zn, *]<;>rfl))
def f107 (a1:ql)(aM:Int)(aJ:Option (List qj))(aH:Option (List qn))(ay:Option (List qe)):Option (Int×(Option (List qn))):=
 jx (zq (a1.names.getD []) 1) fun v1=>
 jx (zq (a1.values.getD []) 1) fun v3=>
 jx (zq (a1.names.getD []) 0) fun v5=>
 jx (f165 (⟨aM,aJ,aH,ay⟩) v5) fun v7=>
 jx (zq (aH.getD []) v7) fun v9=>
 jx (f52 v3 0 10000) fun v11=>
 cond (decide (0<v3))
  (jx (Hh v9.dn v1) fun ei=>
  cond ei
   (jx (f53 Eh 5) fun dr=>
   jx (f51 (I [v11,dr])) fun lL=>
   cond (decide (lL=0))
    (jx (AX v5 v3 v1 v1 aM aJ aH ay) fun eJ=>
    I (0,eJ))
    (I (lL,aH)))
   (jx (f53 (decide (16≤((v9.dn.getD []).length:Int))) 5) fun v24=>
   jx (f51 (I [v11,v24])) fun dM=>
   cond (decide (dM=0))
    (jx (AX v5 v3 v1 v1 aM aJ aH ay) fun fV=>
    I (0,fV))
    (I (dM,aH))))
  (jx (f53 Eh 5) fun v31=>
  jx (f51 (I [v11,v31])) fun wy=>
  cond (decide (wy=0))
   (jx (AX v5 v3 v1 v1 aM aJ aH ay) fun yE=>
   I (0,yE))
   (I (wy,aH)))
theorem zh0 {a1:ql}{aM:Int}{aJ:Option (List qj)}{aH:Option (List qn)}{ay:Option (List qe)}{x1:qm}{x2:qm}{x3:qm}{r}(h:f107 a1 aM aJ aH ay=I r):zg pr (X pr) 107 [.ptr 0 0,aE a1] [kR aM aJ aH ay,x1,x2,x3]=I (Iv r.1,Eh,[kR aM aJ r.2 ay,x1,x2,x3]):=by
 unfold f107 at h
 rw[zh (show pr.bH 107=I sI from rfl) (by simp)]
 repeat' first|(replace h:=jy h;obtain⟨d,g,h⟩:=h; (with_reducible first|replace g:=vm g|replace g:=N9 g|replace g:=jzx g|replace g:=fB g|replace g:=lK g|replace g:=j41 (x1:=x1) (x2:=x2) (x3:=x3) g|skip);try dsimp only[ki,jN,En,kn,yp,z8,zu,bf,y8,vev,aV,zz,dp,aE,aR,aU,aL,aP,aD]at g)|(replace h:=j6 h;rcases h with⟨g,h⟩|⟨g,h⟩)|fail
 all_goals (cases h<;>(simp only[go_sem,seval,sI,zn, *]<;>rfl))
def f108 (a1:ql)(aM:Int)(aJ:Option (List qj))(aH:Option (List qn))(ay:Option (List qe)):Option (Int×(Option (List qn))):=
 jx (zq (a1.names.getD []) 1) fun v1=>
 jx (zq (a1.values.getD []) 1) fun v3=>
 jx (zq (a1.values.getD []) 2) fun v5=>
 jx (zq (a1.names.getD []) 0) fun v7=>
 jx (f165 (⟨aM,aJ,aH,ay⟩) v7) fun v9=>
 jx (zq (aH.getD []) v9) fun v11=>
 jx (f53 (decide (v5<v3)) 11) fun dq=>
 jx (Hm v11.dt (⟨v1,v3,v5⟩)) fun da=>
 cond da
  (jx (f53 Eh 5) fun iP=>
  jx (f51 (I [dq,iP])) fun v20=>
  cond (decide (v20=0))
   (jx (Ec v7 (⟨v1,v3,v5⟩) (⟨v1,v3,v5⟩) aM aJ aH ay) fun ej=>
   I (0,ej))
   (I (v20,aH)))
  (jx (f53 (decide (16≤((v11.dt.getD []).length:Int))) 5) fun Ev=>
  jx (f51 (I [dq,Ev])) fun wH=>
  cond (decide (wH=0))
   (jx (Ec v7 (⟨v1,v3,v5⟩) (⟨v1,v3,v5⟩) aM aJ aH ay) fun v30=>
   I (0,v30))
   (I (wH,aH)))
theorem zbm {a1:ql}{aM:Int}{aJ:Option (List qj)}{aH:Option (List qn)}{ay:Option (List qe)}{x1:qm}{x2:qm}{x3:qm}{r}(h:f108 a1 aM aJ aH ay=I r):zg pr (X pr) 108 [.ptr 0 0,aE a1] [kR aM aJ aH ay,x1,x2,x3]=I (Iv r.1,Eh,[kR aM aJ r.2 ay,x1,x2,x3]):=by
 unfold f108 at h
 rw[zh (show pr.bH 108=I sJ from rfl) (by simp)]
 repeat' first|(replace h:=jy h;obtain⟨d,g,h⟩:=h; (with_reducible first|replace g:=vm g|replace g:=fB g|replace g:=jvz g|replace g:=lK g|replace g:=jye (x1:=x1) (x2:=x2) (x3:=x3) g|skip);try dsimp only[ki,jN,En,kn,yp,z8,zu,bf,y8,vev,aV,zz,dp,aE,aR,aU,aL,aP,aD]at g)|(replace h:=j6 h;rcases h with⟨g,h⟩|⟨g,h⟩)|fail
 all_goals (cases h<;>(simp only[go_sem,seval,sJ,zn, *]<;>rfl))
def f109 (a1:ql)(aM:Int)(aJ:Option (List qj))(aH:Option (List qn))(ay:Option (List qe)):Option (Int×(Option (List qn))):=
 jx (zq (a1.names.getD []) 0) fun v1=>
 jx (f165 (⟨aM,aJ,aH,ay⟩) v1) fun v3=>
 jx (zq (aH.getD []) v3) fun v5=>
 jx (f53 (decide (((v5.dn.getD []).length:Int)=0)) 12) fun v7=>
 jx (f53 (decide (100≤((v5.aO.getD []).length:Int))) 5) fun v9=>
 jx (f51 (I [v7,v9])) fun v11=>
 cond (decide (v11=0))
  (jx (NE aH v3) fun ei=>
  I (0,ei))
  (I (v11,aH))
theorem zfv {a1:ql}{aM:Int}{aJ:Option (List qj)}{aH:Option (List qn)}{ay:Option (List qe)}{x1:qm}{x2:qm}{x3:qm}{r}(h:f109 a1 aM aJ aH ay=I r):zg pr (X pr) 109 [.ptr 0 0,aE a1] [kR aM aJ aH ay,x1,x2,x3]=I (Iv r.1,Eh,[kR aM aJ r.2 ay,x1,x2,x3]):=by
 unfold f109 at h
 rw[zh (show pr.bH 109=I sK from rfl) (by simp)]
 repeat' first|(replace h:=jy h;obtain⟨d,g,h⟩:=h; (with_reducible first|replace g:=vm g|replace g:=fB g|replace g:=lK g|replace g:=jik g|skip);try dsimp only[ki,jN,En,kn,yp,z8,zu,bf,y8,vev,aV,zz,dp,aE,aR,aU,aL,aP,aD]at g)|(replace h:=j6 h;rcases h with⟨g,h⟩|⟨g,h⟩)|fail
 all_goals (cases h<;>(simp only[go_sem,seval,sK,zn, *]<;>rfl))
def f110 (a1:ql)(aM:Int)(aJ:Option (List qj))(aH:Option (List qn))(ay:Option (List qe)):Option (Int×(Option (List qe))×Bool):=
 jx (zq (a1.names.getD []) 1) fun v1=>
 jx (f165 (⟨aM,aJ,aH,ay⟩) v1) fun v3=>
 jx (zq (aH.getD []) v3) fun v5=>
 jx (f182 v5) fun v7=>
 jx (zq (a1.names.getD []) 0) fun v9=>
 jx (f93 (⟨aM,aJ,aH,ay⟩) v9) fun v11=>
 jx (f53 (decide (0≤v11)) 9) fun dq=>
 jx (f53 (decide (v7=0)) 32) fun da=>
 jx (f53 (decide (256≤((ay.getD []).length:Int))) 5) fun dr=>
 jx (f51 (I [dq,da,dr])) fun lL=>
 cond (decide (lL=0))
  (jx (f183 ay (⟨v9,v1,v7,none,none,[],Eh,0⟩)) fun eJ=>
  I (0,eJ,Eo))
  (I (lL,ay,Eh))
theorem zgy {a1:ql}{aM:Int}{aJ:Option (List qj)}{aH:Option (List qn)}{ay:Option (List qe)}{x1:qm}{x2:qm}{x3:qm}{r}(h:f110 a1 aM aJ aH ay=I r):zg pr (X pr) 110 [.ptr 0 0,aE a1] [kR aM aJ aH ay,x1,x2,x3]=I (Iv r.1,Eh,[kS aM aJ Eh aH Eh r.2.1 r.2.2,x1,x2,x3]):=by
 unfold f110 at h
 rw[zh (show pr.bH 110=I sL from rfl) (by simp)]
 repeat' first|(replace h:=jy h;obtain⟨d,g,h⟩:=h; (with_reducible first|replace g:=vm g|replace g:=jpu g|replace g:=wA g|replace g:=fB g|replace g:=lK g|replace g:=zfp g|skip);try dsimp only[ki,jN,En,kn,yp,z8,zu,bf,y8,vev,aV,zz,dp,aE,aR,aU,aL,aP,aD]at g)|(replace h:=j6 h;rcases h with⟨g,h⟩|⟨g,h⟩)|fail
 all_goals (cases h<;>(simp only[go_sem,seval,sL,zn, *]<;>rfl))
def f112 (a1:ql)(aM:Int)(aJ:Option (List qj))(aH:Option (List qn))(ay:Option (List qe)):Option (Int×(Option (List qe))):=
 jx (zq (a1.names.getD []) 0) fun v1=>
 jx (f93 (⟨aM,aJ,aH,ay⟩) v1) fun v3=>
 jx (zq (ay.getD []) v3) fun v5=>
 jx (f134 (⟨aM,aJ,aH,ay⟩) v5) fun v7=>
 jx (Hn v7.aB a1) fun v9=>
 jx (f53 v5.ar 21) fun v11=>
 jx (f53 (!v9) 7) fun dq=>
 jx (f53 (decide (64≤((v5.results.getD []).length:Int))) 5) fun da=>
 jx (f51 (I [v11,dq,da])) fun dr=>
 cond (decide (dr=0))
  (jx (Vk ay v3 a1) fun v20=>
  I (0,v20))
  (I (dr,ay))
theorem zed {a1:ql}{aM:Int}{aJ:Option (List qj)}{aH:Option (List qn)}{ay:Option (List qe)}{x1:qm}{x2:qm}{x3:qm}{r}(h:f112 a1 aM aJ aH ay=I r):zg pr (X pr) 112 [.ptr 0 0,aE a1] [kR aM aJ aH ay,x1,x2,x3]=I (Iv r.1,Eh,[kR aM aJ aH r.2,x1,x2,x3]):=by
 unfold f112 at h
 rw[zh (show pr.bH 112=I sM from rfl) (by simp)]
 repeat' first|(replace h:=jy h;obtain⟨d,g,h⟩:=h; (with_reducible first|replace g:=wA g|replace g:=Oc g|replace g:=j14 g|replace g:=fB g|replace g:=lK g|replace g:=jfm g|skip);try dsimp only[ki,jN,En,kn,yp,z8,zu,bf,y8,vev,aV,zz,dp,aE,aR,aU,aL,aP,aD]at g)|(replace h:=j6 h;rcases h with⟨g,h⟩|⟨g,h⟩)|fail
 all_goals (cases h<;>(simp only[go_sem,seval,sM,zn, *]<;>rfl))
def f113 (a1:ql)(aM:Int)(aJ:Option (List qj))(aH:Option (List qn))(ay:Option (List qe)):Option (Int×(Option (List qe))):=
 jx (zq (a1.names.getD []) 0) fun v1=>
 jx (f93 (⟨aM,aJ,aH,ay⟩) v1) fun v3=>
 jx (zq (ay.getD []) v3) fun v5=>
 jx (f140 (⟨aM,aJ,aH,ay⟩) v5) fun v7=>
 jx (f53 v5.ar 21) fun v9=>
 jx (f53 (decide (v5.version=v7)) 32) fun v11=>
 jx (f51 (I [v9,v11])) fun dq=>
 cond (decide (dq=0))
  (jx (Vh ay v3 v7) fun dE=>
  I (0,dE))
  (I (dq,ay))
theorem zhp {a1:ql}{aM:Int}{aJ:Option (List qj)}{aH:Option (List qn)}{ay:Option (List qe)}{x1:qm}{x2:qm}{x3:qm}{r}(h:f113 a1 aM aJ aH ay=I r):zg pr (X pr) 113 [.ptr 0 0,aE a1] [kR aM aJ aH ay,x1,x2,x3]=I (Iv r.1,Eh,[kR aM aJ aH r.2,x1,x2,x3]):=by
 unfold f113 at h
 rw[zh (show pr.bH 113=I sN from rfl) (by simp)]
 repeat' first|(replace h:=jy h;obtain⟨d,g,h⟩:=h; (with_reducible first|replace g:=wA g|replace g:=jof g|replace g:=fB g|replace g:=lK g|replace g:=jh1 g|skip);try dsimp only[ki,jN,En,kn,yp,z8,zu,bf,y8,vev,aV,zz,dp,aE,aR,aU,aL,aP,aD]at g)|(replace h:=j6 h;rcases h with⟨g,h⟩|⟨g,h⟩)|fail
 all_goals (cases h<;>(simp only[go_sem,seval,sN,zn, *]<;>rfl))
def f114 (a1:ql)(aM:Int)(aJ:Option (List qj))(aH:Option (List qn))(ay:Option (List qe)):Option (Int×(Option (List qe))):=
 jx (zq (a1.names.getD []) 0) fun v1=>
 jx (f93 (⟨aM,aJ,aH,ay⟩) v1) fun v3=>
 jx (zq (a1.names.getD []) 1) fun v5=>
 jx (f93 (⟨aM,aJ,aH,ay⟩) v5) fun v7=>
 jx (zq (ay.getD []) v3) fun v9=>
 jx (zq (ay.getD []) v7) fun v11=>
 jx (f53 (decide (v3=v7)) 9) fun dq=>
 cond (decide (v9.product=v11.product))
  (jx (f53 (!decide (v9.version=v11.version)) 30) fun dE=>
  cond v9.ar
   (jx (f53 Eo 21) fun lL=>
   cond (decide (v9.partner=[]))
    (jx (f53 (!decide (v11.partner=[])) 35) fun eJ=>
    jx (f51 (I [dq,dE,lL,eJ])) fun v24=>
    cond (decide (v24=0))
     (jx (uV ay v3 v11) fun wH=>
     jx (uW wH v7 (⟨v9.name,v9.product,v9.version,v9.uses,v9.results,v9.partner,Eo,v9.aj⟩)) fun fV=>
     I (0,fV))
     (I (v24,ay)))
    (jx (f53 Eo 35) fun v31=>
    jx (f51 (I [dq,dE,lL,v31])) fun wy=>
    cond (decide (wy=0))
     (jx (uV ay v3 v11) fun yE=>
     jx (uW yE v7 (⟨v9.name,v9.product,v9.version,v9.uses,v9.results,v9.partner,Eo,v9.aj⟩)) fun Bh=>
     I (0,Bh))
     (I (wy,ay))))
   (jx (f53 v11.ar 21) fun v40=>
   cond (decide (v9.partner=[]))
    (jx (f53 (!decide (v11.partner=[])) 35) fun Ip=>
    jx (f51 (I [dq,dE,v40,Ip])) fun yD=>
    cond (decide (yD=0))
     (jx (uV ay v3 v11) fun Wf=>
     jx (uW Wf v7 (⟨v9.name,v9.product,v9.version,v9.uses,v9.results,v9.partner,Eh,v9.aj⟩)) fun v50=>
     I (0,v50))
     (I (yD,ay)))
    (jx (f53 Eo 35) fun Wi=>
    jx (f51 (I [dq,dE,v40,Wi])) fun Od=>
    cond (decide (Od=0))
     (jx (uV ay v3 v11) fun Oe=>
     jx (uW Oe v7 (⟨v9.name,v9.product,v9.version,v9.uses,v9.results,v9.partner,Eh,v9.aj⟩)) fun v59=>
     I (0,v59))
     (I (Od,ay)))))
  (jx (f53 Eo 30) fun sO=>
  cond v9.ar
   (jx (f53 Eo 21) fun v64=>
   cond (decide (v9.partner=[]))
    (jx (f53 (!decide (v11.partner=[])) 35) fun v67=>
    jx (f51 (I [dq,sO,v64,v67])) fun Og=>
    cond (decide (Og=0))
     (jx (uV ay v3 v11) fun v72=>
     jx (uW v72 v7 (⟨v9.name,v9.product,v9.version,v9.uses,v9.results,v9.partner,Eo,v9.aj⟩)) fun v74=>
     I (0,v74))
     (I (Og,ay)))
    (jx (f53 Eo 35) fun v76=>
    jx (f51 (I [dq,sO,v64,v76])) fun Oh=>
    cond (decide (Oh=0))
     (jx (uV ay v3 v11) fun v81=>
     jx (uW v81 v7 (⟨v9.name,v9.product,v9.version,v9.uses,v9.results,v9.partner,Eo,v9.aj⟩)) fun I6=>
     I (0,I6))
     (I (Oh,ay))))
   (jx (f53 v11.ar 21) fun v85=>
   cond (decide (v9.partner=[]))
    (jx (f53 (!decide (v11.partner=[])) 35) fun Wj=>
    jx (f51 (I [dq,sO,v85,Wj])) fun Oi=>
    cond (decide (Oi=0))
     (jx (uV ay v3 v11) fun v93=>
     jx (uW v93 v7 (⟨v9.name,v9.product,v9.version,v9.uses,v9.results,v9.partner,Eh,v9.aj⟩)) fun Wk=>
     I (0,Wk))
     (I (Oi,ay)))
    (jx (f53 Eo 35) fun I7=>
    jx (f51 (I [dq,sO,v85,I7])) fun Oj=>
    cond (decide (Oj=0))
     (jx (uV ay v3 v11) fun Wl=>
     jx (uW Wl v7 (⟨v9.name,v9.product,v9.version,v9.uses,v9.results,v9.partner,Eh,v9.aj⟩)) fun Wm=>
     I (0,Wm))
     (I (Oj,ay)))))
theorem zck {a1:ql}{aM:Int}{aJ:Option (List qj)}{aH:Option (List qn)}{ay:Option (List qe)}{x1:qm}{x2:qm}{x3:qm}{r}(h:f114 a1 aM aJ aH ay=I r):zg pr (X pr) 114 [.ptr 0 0,aE a1] [kR aM aJ aH ay,x1,x2,x3]=I (Iv r.1,Eh,[kR aM aJ aH r.2,x1,x2,x3]):=by
 unfold f114 at h
 rw[zh (show pr.bH 114=I sP from rfl) (by simp)]
 repeat' first|(replace h:=jy h;obtain⟨d,g,h⟩:=h; (with_reducible first|replace g:=wA g|replace g:=fB g|replace g:=lK g|replace g:=jhy g|replace g:=jfb g|skip);try dsimp only[ki,jN,En,kn,yp,z8,zu,bf,y8,vev,aV,zz,dp,aE,aR,aU,aL,aP,aD]at g)|(replace h:=j6 h;rcases h with⟨g,h⟩|⟨g,h⟩)|fail
 all_goals (cases h<;>(simp only[go_sem,seval,sP,zn, *]<;>rfl))
def f115 (a1:ql)(aM:Int)(aJ:Option (List qj))(aH:Option (List qn))(ay:Option (List qe)):Option (Int×(Option (List qj))):=
 jx (zq (a1.names.getD []) 0) fun v1=>
 jx (f72 (⟨aM,aJ,aH,ay⟩) v1) fun v3=>
 jx (zq (aJ.getD []) v3) fun v5=>
 cond v5.held
  (I (34,aJ))
  (jx (Ve aJ v3) fun v8=>
  I (0,v8))
theorem zc0 {a1:ql}{aM:Int}{aJ:Option (List qj)}{aH:Option (List qn)}{ay:Option (List qe)}{x1:qm}{x2:qm}{x3:qm}{r}(h:f115 a1 aM aJ aH ay=I r):zg pr (X pr) 115 [.ptr 0 0,aE a1] [kR aM aJ aH ay,x1,x2,x3]=I (Iv r.1,Eh,[kR aM r.2 aH ay,x1,x2,x3]):=by
 unfold f115 at h
 rw[zh (show pr.bH 115=I sQ from rfl) (by simp)]
 repeat' first|(replace h:=jy h;obtain⟨d,g,h⟩:=h;with_reducible first|replace g:=Bl g|replace g:=jir g|skip)|(replace h:=j6 h;rcases h with⟨g,h⟩|⟨g,h⟩)|fail
 all_goals (cases h<;>(simp only[go_sem,seval,sQ,zn, *]<;>rfl))
def f116 (a1:ql)(aM:Int)(aJ:Option (List qj))(aH:Option (List qn))(ay:Option (List qe)):Option (Int×(Option (List qj))):=
 jx (zq (a1.names.getD []) 0) fun v1=>
 jx (f72 (⟨aM,aJ,aH,ay⟩) v1) fun v3=>
 jx (zq (aJ.getD []) v3) fun v5=>
 cond v5.held
  (jx (Vf aJ v3) fun v8=>
  I (0,v8))
  (I (20,aJ))
theorem zdg {a1:ql}{aM:Int}{aJ:Option (List qj)}{aH:Option (List qn)}{ay:Option (List qe)}{x1:qm}{x2:qm}{x3:qm}{r}(h:f116 a1 aM aJ aH ay=I r):zg pr (X pr) 116 [.ptr 0 0,aE a1] [kR aM aJ aH ay,x1,x2,x3]=I (Iv r.1,Eh,[kR aM r.2 aH ay,x1,x2,x3]):=by
 unfold f116 at h
 rw[zh (show pr.bH 116=I sR from rfl) (by simp)]
 repeat' first|(replace h:=jy h;obtain⟨d,g,h⟩:=h;with_reducible first|replace g:=Bl g|replace g:=jei g|skip)|(replace h:=j6 h;rcases h with⟨g,h⟩|⟨g,h⟩)|fail
 all_goals (cases h<;>(simp only[go_sem,seval,sR,zn, *]<;>rfl))
def f118 (a1:ql)(aM:Int)(aJ:Option (List qj))(aH:Option (List qn))(ay:Option (List qe)):Option (Int×(Option (List qe))):=
 jx (zq (a1.names.getD []) 0) fun v1=>
 jx (f93 (⟨aM,aJ,aH,ay⟩) v1) fun v3=>
 jx (zq (ay.getD []) v3) fun v5=>
 cond v5.ar
  (jx (Vj ay v3) fun v8=>
  I (0,v8))
  (I (20,ay))
theorem zff {a1:ql}{aM:Int}{aJ:Option (List qj)}{aH:Option (List qn)}{ay:Option (List qe)}{x1:qm}{x2:qm}{x3:qm}{r}(h:f118 a1 aM aJ aH ay=I r):zg pr (X pr) 118 [.ptr 0 0,aE a1] [kR aM aJ aH ay,x1,x2,x3]=I (Iv r.1,Eh,[kR aM aJ aH r.2,x1,x2,x3]):=by
 unfold f118 at h
 rw[zh (show pr.bH 118=I sS from rfl) (by simp)]
 repeat' first|(replace h:=jy h;obtain⟨d,g,h⟩:=h;with_reducible first|replace g:=wA g|replace g:=jhf g|skip)|(replace h:=j6 h;rcases h with⟨g,h⟩|⟨g,h⟩)|fail
 all_goals (cases h<;>(simp only[go_sem,seval,sS,zn, *]<;>rfl))
end Go.Z
namespace Go.Z
open Go Go.Abs Go.W
def f111 (a1:ql)(aM:Int)(aJ:Option (List qj))(aH:Option (List qn))(ay:Option (List qe)):Option (Int×(Option (List qj))×(Option (List qe))):=
 jx (zq (a1.names.getD []) 0) fun v1=>
 jx (f93 (⟨aM,aJ,aH,ay⟩) v1) fun v3=>
 jx (zq (a1.names.getD []) 1) fun v5=>
 jx (f72 (⟨aM,aJ,aH,ay⟩) v5) fun v7=>
 jx (zq (a1.values.getD []) 1) fun v9=>
 jx (zq (ay.getD []) v3) fun v11=>
 jx (zq (aJ.getD []) v7) fun dq=>
 jx (f134 (⟨aM,aJ,aH,ay⟩) v11) fun da=>
 jx (Hk da.aF dq) fun dr=>
 jx (f53 v11.ar 21) fun lL=>
 jx (f53 (decide (v9=0)) 3) fun v21=>
 jx (f53 dq.held 34) fun ej=>
 jx (f53 (!dr) 7) fun Ev=>
 jx (f53 (decide (dq.left<v9)) 4) fun wH=>
 jx (f51 (I [lL,v21,ej,Ev,wH])) fun fV=>
 cond (decide (fV=0))
  (jx (Vl aJ v7 v9) fun gq=>
  jx (f188 v11.uses dq) fun Ok=>
  cond (decide (0≤Ok))
   (jx (zq (v11.uses.getD []) Ok) fun v37=>
   jx (fO ay v3 (Ed ⟨dq.name,j9 .i64 (v9+v37.n)⟩ dq)) fun us=>I (fV,gq,us))
   (jx (fO ay v3 (Ed ⟨dq.name,v9⟩ dq)) fun us=>I (fV,gq,us)))
  (I (fV,aJ,ay))
theorem zan {a1:ql}{aM:Int}{aJ:Option (List qj)}{aH:Option (List qn)}{ay:Option (List qe)}{x1 x2 x3:qm}{r}(h:f111 a1 aM aJ aH ay=I r):
  (r.1≠0∧r.2=(aJ,ay)∧zg pr (X pr) 111 [.ptr 0 0,aE a1] [kR aM aJ aH ay,x1,x2,x3]=I (Iv r.1,Eh,[kR aM aJ aH ay,x1,x2,x3])) ∨
  (r.1=0∧∃(n:Nat) (b:qm) (cs:List (qa×Bool)),zg pr (X pr) 111 [.ptr 0 0,aE a1] [kR aM aJ aH ay,x1,x2,x3]=I (Iv 0,Eh,[.cells [(Iv aM,Eh),(sl 5 z8 r.2.1,Eh),(sl 4 zu aH,Eh),(.ms 5 0 n,Eh)],x1,x2,x3,b,.cells cs])∧cs.map (·.1)=yv bf (r.2.2.getD [])∧n=(r.2.2.getD []).length∧0<n):=by
 unfold f111 at h
 obtain⟨v1,h2,h⟩:=jy h
 obtain⟨v3,h4,h⟩:=jy h
 have Bk:jz pr (X pr) 93 [aG aM aJ aH ay,.str v1]=I (Iv v3,Eh):=wA h4
 obtain⟨v5,h6,h⟩:=jy h
 obtain⟨v7,h8,h⟩:=jy h
 have Wn:jz pr (X pr) 72 [aG aM aJ aH ay,.str v5]=I (Iv v7,Eh):=Bl h8
 obtain⟨v9,kJ,h⟩:=jy h
 obtain⟨v11,lH,h⟩:=jy h
 obtain⟨dq,oz,h⟩:=jy h
 obtain⟨da,ox,h⟩:=jy h
 have Bm:jz pr (X pr) 134 [aG aM aJ aH ay,aU v11]=I (aD da,Eh):=Oc ox
 obtain⟨dr,VZ,h⟩:=jy h
 have Bn:jz pr (X pr) 168 [sl 2 aV da.aF,.fn (.func 184) [] [.ah (aL dq)]]=I (.bool dr,Eh):=jz0 VZ
 obtain⟨lL,Aq,h⟩:=jy h
 have Bo:jz pr (X pr) 53 [.bool v11.ar,Iv 21]=I (Iv lL,Eh):=fB Aq
 obtain⟨v21,Ar,h⟩:=jy h
 have Bp:jz pr (X pr) 53 [.bool (decide (v9=0)),Iv 3]=I (Iv v21,Eh):=fB Ar
 obtain⟨ej,As,h⟩:=jy h
 have Bq:jz pr (X pr) 53 [.bool dq.held,Iv 34]=I (Iv ej,Eh):=fB As
 obtain⟨Ev,HR,h⟩:=jy h
 have Br:jz pr (X pr) 53 [.bool (!dr),Iv 7]=I (Iv Ev,Eh):=fB HR
 obtain⟨wH,HS,h⟩:=jy h
 have Bs:jz pr (X pr) 53 [.bool (decide (dq.left<v9)),Iv 4]=I (Iv wH,Eh):=fB HS
 obtain⟨fV,HT,h⟩:=jy h
 have Bt:jz pr (X pr) 51 [.list Eh 1 [Iv lL,Iv v21,Iv ej,Iv Ev,Iv wH]]=I (Iv fV,Eh):=lK HT
 rcases j6 h with⟨rj,h⟩|⟨rj,h⟩
 ·obtain⟨gq,Wo,h⟩:=jy h
  have I8:jz pr (X pr) 185 [sl 5 z8 aJ,Iv v7,.fn (.func 186) [] [.ah (Iv v9)]]=I (sl 5 z8 gq,Eh):=jel Wo
  obtain⟨Ok,Wp,h⟩:=jy h
  have I9:jz pr (X pr) 188 [sl 2 aV v11.uses,.fn (.func 187) [] [.ah (aL dq)]]=I (Iv Ok,Eh):=joh Wp
  rcases j6 h with⟨Ja,h⟩|⟨Ja,h⟩
  ·obtain⟨v37,h38,h⟩:=jy h
   obtain⟨us,hu,h⟩:=jy h
   cases h
   obtain⟨n,x,y,rfl,hl,hx,hy,rfl⟩:=yC hu
   obtain⟨cs,g1,g2⟩:=js4 (b0:=(kR aM gq aH ay)) (b1:=x1) (b2:=x2) (b3:=x3) hx hy
   have w:=jjy hl (El.1 hx).1 g1
   simp only[qz1]at w
   refine .inr ⟨of_decide_eq_true rj,(ay.getD []).length,.cells [(.str dq.name,Eh),(Iv (j9 .i64 (v9+v37.n)),Eh)],cs,?_,g2,by simp,by have:=(El.1 hx).1;omega⟩
   rw[zh (show pr.bH 111=I kM from rfl) (by simp)]
   simp only[go_sem,seval,kM,ky h2,Bk,ky h6,Wn,ky kJ,ky lH,ky oz,Bm,Bn,Bo,Bp,Bq,Br,Bs,Bt,rj,I8,I9,Ja,ky h38,w,(show ∀n,below 5 (.ms 5 0 n)=Eh from fun _=>rfl),E5,cond_false]
  ·obtain⟨us,hu,h⟩:=jy h
   cases h
   obtain⟨n,x,y,rfl,hl,hx,hy,rfl⟩:=yC hu
   obtain⟨cs,g1,g2⟩:=js4 (b0:=(kR aM gq aH ay)) (b1:=x1) (b2:=x2) (b3:=x3) hx hy
   have w:=jjy hl (El.1 hx).1 g1
   simp only[qz1]at w
   refine .inr ⟨of_decide_eq_true rj,(ay.getD []).length,.cells [(.str dq.name,Eh),(Iv v9,Eh)],cs,?_,g2,by simp,by have:=(El.1 hx).1;omega⟩
   rw[zh (show pr.bH 111=I kM from rfl) (by simp)]
   simp only[go_sem,seval,kM,ky h2,Bk,ky h6,Wn,ky kJ,ky lH,ky oz,Bm,Bn,Bo,Bp,Bq,Br,Bs,Bt,rj,I8,I9,Ja,w,(show ∀n,below 5 (.ms 5 0 n)=Eh from fun _=>rfl),E5,cond_false]
 ·cases h
  refine .inl ⟨of_decide_eq_false rj,rfl,?_⟩
  rw[zh (show pr.bH 111=I kM from rfl) (by simp)]
  simp only[go_sem,seval,kM,ky h2,Bk,ky h6,Wn,ky kJ,ky lH,ky oz,Bm,Bn,Bo,Bp,Bq,Br,Bs,Bt,rj]<;>rfl
end Go.Z
end
