/- Chapter 10. -/
import Derived.Test.YtfopaakmgogpiaaGreatDoorV3
set_option linter.unusedVariables false
set_option linter.unusedSimpArgs false
set_option maxRecDepth 100000
set_option maxHeartbeats 4000000
noncomputable section
open Option renaming some→I
open Bool renaming false→Eh,true→Eo,false_and→Ep
open List renaming getElem?_eq_some_iff→Ek,map→En
namespace Go.Z
open Go Go.Abs Go.W
def Bq (a1:List UInt8)(dq:Int)(dc:List UInt8)(wU:List UInt8)(aM:Int)(aJ:Option (List qm))(aC:Option (List qq))(ax:Option (List qf)):Option (Option (List qq)):=
 jw (f165 (⟨aM,aJ,aC,ax⟩) a1) fun v1=>
 jw (WO aC v1 dq dc wU) fun v3=>
 I v3
theorem jzy {a1 dq dc wU aM aJ aC ax x1 x2 x3 r}(h:Bq a1 dq dc wU aM aJ aC ax=I r):ze pr (X pr) 169 [.ptr 0 0,.str a1,.fn (.func 170) [] [.ah (Iv dq),.ah (.fn (.func 167) [] [.ah (.str dc)]),.ah (.str wU)]] [kR aM aJ aC ax,x1,x2,x3]=I (.ay [],Eh,[kR aM aJ r ax,x1,x2,x3]):=by
 unfold Bq at h
 rw[zf (show pr.bB 169=I nA from rfl) (by simp)]
 repeat' first|(replace h:=jx h;obtain⟨d,g,h⟩:=h;with_reducible first|replace g:=vH g|replace g:=jg5 g|skip)|(replace h:=jz h;rcases h with⟨g,h⟩|⟨g,h⟩)|fail
 all_goals (cases h<;>(simp only[go_sem,seval,nA, *]<;>rfl))
def E5 (a1:List UInt8)(dq:qj)(dc:qj)(aM:Int)(aJ:Option (List qm))(aC:Option (List qq))(ax:Option (List qf)):Option (Option (List qq)):=
 jw (f165 (⟨aM,aJ,aC,ax⟩) a1) fun v1=>
 jw (WQ aC v1 dq dc) fun v3=>
 I v3
theorem j8e {a1 dq dc aM aJ aC ax x1 x2 x3 r}(h:E5 a1 dq dc aM aJ aC ax=I r):ze pr (X pr) 169 [.ptr 0 0,.str a1,.fn (.func 176) [] [.ah (aT dq),.ah (.fn (.func 174) [] [.ah (aT dc)])]] [kR aM aJ aC ax,x1,x2,x3]=I (.ay [],Eh,[kR aM aJ r ax,x1,x2,x3]):=by
 unfold E5 at h
 obtain⟨v1,h2,h⟩:=jx h
 have iR:jy pr (X pr) 165 [aG aM aJ aC ax,.str a1]=I (Iv v1,Eh):=vH h2
 obtain⟨v3,h4,h⟩:=jx h
 have vG:jy pr (X pr) 178 [sl 4 zm aC,Iv v1,.fn (.func 236) [] [.ah (.fn (.func 176) [] [.ah (aT dq),.ah (.fn (.func 174) [] [.ah (aT dc)])])]]=I (sl 4 zm v3,Eh):=jkb h4
 have hr:v3=r:=I.inj h
 subst hr
 rw[zf (show pr.bB 169=I nA from rfl) (by simp)]
 simp only[go_sem,seval,nA,iR,vG]<;>rfl
def f105 (a1:ql)(aM:Int)(aJ:Option (List qm))(aC:Option (List qq))(ax:Option (List qf)):Option (Int×(Option (List qm))×Bool):=
 jw (zn (a1.names.getD []) 0) fun v1=>
 jw (f72 (⟨aM,aJ,aC,ax⟩) v1) fun v3=>
 jw (f53 (decide (0≤v3)) 9) fun v5=>
 jw (zn (a1.values.getD []) 1) fun v7=>
 jw (f52 v7 1 10000) fun v9=>
 jw (f53 (decide (64≤((aJ.getD []).length:Int))) 5) fun v11=>
 jw (f51 (I [v5,v9,v11])) fun ef=>
 cond (decide (ef=0))
  (jw (zn (a1.names.getD []) 1) fun da=>
  jw (f164 aJ (⟨v1,da,v7,v7,Eh⟩)) fun iT=>
  I (0,iT,Eo))
  (I (ef,aJ,Eh))
theorem za0 {a1 aM aJ aC ax x1 x2 x3 r}(h:f105 a1 aM aJ aC ax=I r):ze pr (X pr) 105 [.ptr 0 0,aE a1] [kR aM aJ aC ax,x1,x2,x3]=I (Iv r.1,Eh,[kS aM r.2.1 r.2.2 aC Eh ax Eh,x1,x2,x3]):=by
 unfold f105 at h
 rw[zf (show pr.bB 105=I sW from rfl) (by simp)]
 repeat' first|(replace h:=jx h;obtain⟨d,g,h⟩:=h; (with_reducible first|replace g:=BU g|replace g:=fC g|replace g:=PE g|replace g:=lV g|replace g:=zb3 g|skip);try dsimp only[y7,hH,En,kh,zk,zw,zm,aQ,y9,vev,aV,zx,db,aE,aR,aU,aL,aP,aD]at g)|(replace h:=jz h;rcases h with⟨g,h⟩|⟨g,h⟩)|fail
 all_goals (cases h<;>(simp only[go_sem,seval,sW,zj, *]<;>rfl))
def f106 (a1:ql)(aM:Int)(aJ:Option (List qm))(aC:Option (List qq))(ax:Option (List qf)):Option (Int×(Option (List qq))×Bool):=
 jw (zn (a1.names.getD []) 0) fun v1=>
 jw (f165 (⟨aM,aJ,aC,ax⟩) v1) fun v3=>
 jw (f53 (decide (0≤v3)) 9) fun v5=>
 jw (f53 (decide (16≤((aC.getD []).length:Int))) 5) fun v7=>
 jw (f51 (I [v5,v7])) fun v9=>
 cond (decide (v9=0))
  (jw (f166 aC (⟨v1,none,none,none⟩)) fun v12=>
  I (0,v12,Eo))
  (I (v9,aC,Eh))
theorem zgv {a1 aM aJ aC ax x1 x2 x3 r}(h:f106 a1 aM aJ aC ax=I r):ze pr (X pr) 106 [.ptr 0 0,aE a1] [kR aM aJ aC ax,x1,x2,x3]=I (Iv r.1,Eh,[kS aM aJ Eh r.2.1 r.2.2 ax Eh,x1,x2,x3]):=by
 unfold f106 at h
 rw[zf (show pr.bB 106=I sX from rfl) (by simp)]
 repeat' first|(replace h:=jx h;obtain⟨d,g,h⟩:=h; (with_reducible first|replace g:=vH g|replace g:=fC g|replace g:=lV g|replace g:=zd1 g|skip);try dsimp only[y7,hH,En,kh,zk,zw,zm,aQ,y9,vev,aV,zx,db,aE,aR,aU,aL,aP,aD]at g)|(replace h:=jz h;rcases h with⟨g,h⟩|⟨g,h⟩)|fail
 all_goals (cases h<;>(simp only[go_sem,seval,sX,zj, *]<;>rfl))
def f107 (a1:ql)(aM:Int)(aJ:Option (List qm))(aC:Option (List qq))(ax:Option (List qf)):Option (Int×(Option (List qq))):=
 jw (zn (a1.names.getD []) 1) fun v1=>
 jw (zn (a1.values.getD []) 1) fun v3=>
 jw (zn (a1.names.getD []) 0) fun v5=>
 jw (f165 (⟨aM,aJ,aC,ax⟩) v5) fun v7=>
 jw (zn (aC.getD []) v7) fun v9=>
 jw (f52 v3 0 10000) fun v11=>
 cond (decide (0<v3))
  (jw (Il v9.dn v1) fun dB=>
  cond dB
   (jw (f53 Eh 5) fun hO=>
   jw (f51 (I [v11,hO])) fun nB=>
   cond (decide (nB=0))
    (jw (Bq v5 v3 v1 v1 aM aJ aC ax) fun eH=>
    I (0,eH))
    (I (nB,aC)))
   (jw (f53 (decide (16≤((v9.dn.getD []).length:Int))) 5) fun v24=>
   jw (f51 (I [v11,v24])) fun eg=>
   cond (decide (eg=0))
    (jw (Bq v5 v3 v1 v1 aM aJ aC ax) fun fc=>
    I (0,fc))
    (I (eg,aC))))
  (jw (f53 Eh 5) fun v31=>
  jw (f51 (I [v11,v31])) fun kW=>
  cond (decide (kW=0))
   (jw (Bq v5 v3 v1 v1 aM aJ aC ax) fun yY=>
   I (0,yY))
   (I (kW,aC)))
theorem ziw {a1 aM aJ aC ax x1 x2 x3 r}(h:f107 a1 aM aJ aC ax=I r):ze pr (X pr) 107 [.ptr 0 0,aE a1] [kR aM aJ aC ax,x1,x2,x3]=I (Iv r.1,Eh,[kR aM aJ r.2 ax,x1,x2,x3]):=by
 unfold f107 at h
 rw[zf (show pr.bB 107=I sY from rfl) (by simp)]
 repeat' first|(replace h:=jx h;obtain⟨d,g,h⟩:=h; (with_reducible first|replace g:=vH g|replace g:=PE g|replace g:=j0h g|replace g:=fC g|replace g:=lV g|replace g:=jzy (x1:=x1) (x2:=x2) (x3:=x3) g|skip);try dsimp only[y7,hH,En,kh,zk,zw,zm,aQ,y9,vev,aV,zx,db,aE,aR,aU,aL,aP,aD]at g)|(replace h:=jz h;rcases h with⟨g,h⟩|⟨g,h⟩)|fail
 all_goals (cases h<;>(simp only[go_sem,seval,sY,zj, *]<;>rfl))
def f108 (a1:ql)(aM:Int)(aJ:Option (List qm))(aC:Option (List qq))(ax:Option (List qf)):Option (Int×(Option (List qq))):=
 jw (zn (a1.names.getD []) 1) fun v1=>
 jw (zn (a1.values.getD []) 1) fun v3=>
 jw (zn (a1.values.getD []) 2) fun v5=>
 jw (zn (a1.names.getD []) 0) fun v7=>
 jw (f165 (⟨aM,aJ,aC,ax⟩) v7) fun v9=>
 jw (zn (aC.getD []) v9) fun v11=>
 jw (f53 (decide (v5<v3)) 11) fun ef=>
 jw (Ir v11.dt (⟨v1,v3,v5⟩)) fun eO=>
 cond eO
  (jw (f53 Eh 5) fun iT=>
  jw (f51 (I [ef,iT])) fun v20=>
  cond (decide (v20=0))
   (jw (E5 v7 (⟨v1,v3,v5⟩) (⟨v1,v3,v5⟩) aM aJ aC ax) fun jH=>
   I (0,jH))
   (I (v20,aC)))
  (jw (f53 (decide (16≤((v11.dt.getD []).length:Int))) 5) fun Fu=>
  jw (f51 (I [ef,Fu])) fun wV=>
  cond (decide (wV=0))
   (jw (E5 v7 (⟨v1,v3,v5⟩) (⟨v1,v3,v5⟩) aM aJ aC ax) fun v30=>
   I (0,v30))
   (I (wV,aC)))
theorem zhm {a1 aM aJ aC ax x1 x2 x3 r}(h:f108 a1 aM aJ aC ax=I r):ze pr (X pr) 108 [.ptr 0 0,aE a1] [kR aM aJ aC ax,x1,x2,x3]=I (Iv r.1,Eh,[kR aM aJ r.2 ax,x1,x2,x3]):=by
 unfold f108 at h
 rw[zf (show pr.bB 108=I sZ from rfl) (by simp)]
 repeat' first|(replace h:=jx h;obtain⟨d,g,h⟩:=h; (with_reducible first|replace g:=vH g|replace g:=fC g|replace g:=j1j g|replace g:=lV g|replace g:=j8e (x1:=x1) (x2:=x2) (x3:=x3) g|skip);try dsimp only[y7,hH,En,kh,zk,zw,zm,aQ,y9,vev,aV,zx,db,aE,aR,aU,aL,aP,aD]at g)|(replace h:=jz h;rcases h with⟨g,h⟩|⟨g,h⟩)|fail
 all_goals (cases h<;>(simp only[go_sem,seval,sZ,zj, *]<;>rfl))
def f109 (a1:ql)(aM:Int)(aJ:Option (List qm))(aC:Option (List qq))(ax:Option (List qf)):Option (Int×(Option (List qq))):=
 jw (zn (a1.names.getD []) 0) fun v1=>
 jw (f165 (⟨aM,aJ,aC,ax⟩) v1) fun v3=>
 jw (zn (aC.getD []) v3) fun v5=>
 jw (f53 (decide (((v5.dn.getD []).length:Int)=0)) 12) fun v7=>
 jw (f53 (decide (100≤((v5.aO.getD []).length:Int))) 5) fun v9=>
 jw (f51 (I [v7,v9])) fun v11=>
 cond (decide (v11=0))
  (jw (O5 aC v3) fun dB=>
  I (0,dB))
  (I (v11,aC))
theorem zep {a1 aM aJ aC ax x1 x2 x3 r}(h:f109 a1 aM aJ aC ax=I r):ze pr (X pr) 109 [.ptr 0 0,aE a1] [kR aM aJ aC ax,x1,x2,x3]=I (Iv r.1,Eh,[kR aM aJ r.2 ax,x1,x2,x3]):=by
 unfold f109 at h
 rw[zf (show pr.bB 109=I s5 from rfl) (by simp)]
 repeat' first|(replace h:=jx h;obtain⟨d,g,h⟩:=h; (with_reducible first|replace g:=vH g|replace g:=fC g|replace g:=lV g|replace g:=jje g|skip);try dsimp only[y7,hH,En,kh,zk,zw,zm,aQ,y9,vev,aV,zx,db,aE,aR,aU,aL,aP,aD]at g)|(replace h:=jz h;rcases h with⟨g,h⟩|⟨g,h⟩)|fail
 all_goals (cases h<;>(simp only[go_sem,seval,s5,zj, *]<;>rfl))
def f110 (a1:ql)(aM:Int)(aJ:Option (List qm))(aC:Option (List qq))(ax:Option (List qf)):Option (Int×(Option (List qf))×Bool):=
 jw (zn (a1.names.getD []) 1) fun v1=>
 jw (f165 (⟨aM,aJ,aC,ax⟩) v1) fun v3=>
 jw (zn (aC.getD []) v3) fun v5=>
 jw (f182 v5) fun v7=>
 jw (zn (a1.names.getD []) 0) fun v9=>
 jw (f93 (⟨aM,aJ,aC,ax⟩) v9) fun v11=>
 jw (f53 (decide (0≤v11)) 9) fun ef=>
 jw (f53 (decide (v7=0)) 32) fun eO=>
 jw (f53 (decide (256≤((ax.getD []).length:Int))) 5) fun hO=>
 jw (f51 (I [ef,eO,hO])) fun nB=>
 cond (decide (nB=0))
  (jw (f183 ax (⟨v9,v1,v7,none,none,[],Eh,0⟩)) fun eH=>
  I (0,eH,Eo))
  (I (nB,ax,Eh))
theorem zi0 {a1 aM aJ aC ax x1 x2 x3 r}(h:f110 a1 aM aJ aC ax=I r):ze pr (X pr) 110 [.ptr 0 0,aE a1] [kR aM aJ aC ax,x1,x2,x3]=I (Iv r.1,Eh,[kS aM aJ Eh aC Eh r.2.1 r.2.2,x1,x2,x3]):=by
 unfold f110 at h
 rw[zf (show pr.bB 110=I s6 from rfl) (by simp)]
 repeat' first|(replace h:=jx h;obtain⟨d,g,h⟩:=h; (with_reducible first|replace g:=vH g|replace g:=jue g|replace g:=vD g|replace g:=fC g|replace g:=lV g|replace g:=zhw g|skip);try dsimp only[y7,hH,En,kh,zk,zw,zm,aQ,y9,vev,aV,zx,db,aE,aR,aU,aL,aP,aD]at g)|(replace h:=jz h;rcases h with⟨g,h⟩|⟨g,h⟩)|fail
 all_goals (cases h<;>(simp only[go_sem,seval,s6,zj, *]<;>rfl))
def f112 (a1:ql)(aM:Int)(aJ:Option (List qm))(aC:Option (List qq))(ax:Option (List qf)):Option (Int×(Option (List qf))):=
 jw (zn (a1.names.getD []) 0) fun v1=>
 jw (f93 (⟨aM,aJ,aC,ax⟩) v1) fun v3=>
 jw (zn (ax.getD []) v3) fun v5=>
 jw (f134 (⟨aM,aJ,aC,ax⟩) v5) fun v7=>
 jw (Iu v7.aH a1) fun v9=>
 jw (f53 v5.aq 21) fun v11=>
 jw (f53 (!v9) 7) fun ef=>
 jw (f53 (decide (64≤((v5.results.getD []).length:Int))) 5) fun eO=>
 jw (f51 (I [v11,ef,eO])) fun hO=>
 cond (decide (hO=0))
  (jw (WW ax v3 a1) fun v20=>
  I (0,v20))
  (I (hO,ax))
theorem zda {a1 aM aJ aC ax x1 x2 x3 r}(h:f112 a1 aM aJ aC ax=I r):ze pr (X pr) 112 [.ptr 0 0,aE a1] [kR aM aJ aC ax,x1,x2,x3]=I (Iv r.1,Eh,[kR aM aJ aC r.2,x1,x2,x3]):=by
 unfold f112 at h
 rw[zf (show pr.bB 112=I s7 from rfl) (by simp)]
 repeat' first|(replace h:=jx h;obtain⟨d,g,h⟩:=h; (with_reducible first|replace g:=vD g|replace g:=PH g|replace g:=j7j g|replace g:=fC g|replace g:=lV g|replace g:=jfr g|skip);try dsimp only[y7,hH,En,kh,zk,zw,zm,aQ,y9,vev,aV,zx,db,aE,aR,aU,aL,aP,aD]at g)|(replace h:=jz h;rcases h with⟨g,h⟩|⟨g,h⟩)|fail
 all_goals (cases h<;>(simp only[go_sem,seval,s7,zj, *]<;>rfl))
def f113 (a1:ql)(aM:Int)(aJ:Option (List qm))(aC:Option (List qq))(ax:Option (List qf)):Option (Int×(Option (List qf))):=
 jw (zn (a1.names.getD []) 0) fun v1=>
 jw (f93 (⟨aM,aJ,aC,ax⟩) v1) fun v3=>
 jw (zn (ax.getD []) v3) fun v5=>
 jw (f140 (⟨aM,aJ,aC,ax⟩) v5) fun v7=>
 jw (f53 v5.aq 21) fun v9=>
 jw (f53 (decide (v5.version=v7)) 32) fun v11=>
 jw (f51 (I [v9,v11])) fun ef=>
 cond (decide (ef=0))
  (jw (WT ax v3 v7) fun da=>
  I (0,da))
  (I (ef,ax))
theorem zd0 {a1 aM aJ aC ax x1 x2 x3 r}(h:f113 a1 aM aJ aC ax=I r):ze pr (X pr) 113 [.ptr 0 0,aE a1] [kR aM aJ aC ax,x1,x2,x3]=I (Iv r.1,Eh,[kR aM aJ aC r.2,x1,x2,x3]):=by
 unfold f113 at h
 rw[zf (show pr.bB 113=I s9 from rfl) (by simp)]
 repeat' first|(replace h:=jx h;obtain⟨d,g,h⟩:=h; (with_reducible first|replace g:=vD g|replace g:=jsn g|replace g:=fC g|replace g:=lV g|replace g:=jki g|skip);try dsimp only[y7,hH,En,kh,zk,zw,zm,aQ,y9,vev,aV,zx,db,aE,aR,aU,aL,aP,aD]at g)|(replace h:=jz h;rcases h with⟨g,h⟩|⟨g,h⟩)|fail
 all_goals (cases h<;>(simp only[go_sem,seval,s9,zj, *]<;>rfl))
def f114 (a1:ql)(aM:Int)(aJ:Option (List qm))(aC:Option (List qq))(ax:Option (List qf)):Option (Int×(Option (List qf))):=
 jw (zn (a1.names.getD []) 0) fun v1=>
 jw (f93 (⟨aM,aJ,aC,ax⟩) v1) fun v3=>
 jw (zn (a1.names.getD []) 1) fun v5=>
 jw (f93 (⟨aM,aJ,aC,ax⟩) v5) fun v7=>
 jw (zn (ax.getD []) v3) fun v9=>
 jw (zn (ax.getD []) v7) fun v11=>
 jw (f53 (decide (v3=v7)) 9) fun ef=>
 cond (decide (v9.product=v11.product))
  (jw (f53 (!decide (v9.version=v11.version)) 30) fun da=>
  cond v9.aq
   (jw (f53 Eo 21) fun nB=>
   cond (decide (v9.partner=[]))
    (jw (f53 (!decide (v11.partner=[])) 35) fun eH=>
    jw (f51 (I [ef,da,nB,eH])) fun v24=>
    cond (decide (v24=0))
     (jw (vp ax v3 v11) fun wV=>
     jw (vq wV v7 (⟨v9.name,v9.product,v9.version,v9.uses,v9.results,v9.partner,Eo,v9.aj⟩)) fun fc=>
     I (0,fc))
     (I (v24,ax)))
    (jw (f53 Eo 35) fun v31=>
    jw (f51 (I [ef,da,nB,v31])) fun kW=>
    cond (decide (kW=0))
     (jw (vp ax v3 v11) fun yY=>
     jw (vq yY v7 (⟨v9.name,v9.product,v9.version,v9.uses,v9.results,v9.partner,Eo,v9.aj⟩)) fun BP=>
     I (0,BP))
     (I (kW,ax))))
   (jw (f53 v11.aq 21) fun v40=>
   cond (decide (v9.partner=[]))
    (jw (f53 (!decide (v11.partner=[])) 35) fun JJ=>
    jw (f51 (I [ef,da,v40,JJ])) fun yX=>
    cond (decide (yX=0))
     (jw (vp ax v3 v11) fun JC=>
     jw (vq JC v7 (⟨v9.name,v9.product,v9.version,v9.uses,v9.results,v9.partner,Eh,v9.aj⟩)) fun v50=>
     I (0,v50))
     (I (yX,ax)))
    (jw (f53 Eo 35) fun iU=>
    jw (f51 (I [ef,da,v40,iU])) fun tc=>
    cond (decide (tc=0))
     (jw (vp ax v3 v11) fun Fv=>
     jw (vq Fv v7 (⟨v9.name,v9.product,v9.version,v9.uses,v9.results,v9.partner,Eh,v9.aj⟩)) fun v59=>
     I (0,v59))
     (I (tc,ax)))))
  (jw (f53 Eo 30) fun wW=>
  cond v9.aq
   (jw (f53 Eo 21) fun v64=>
   cond (decide (v9.partner=[]))
    (jw (f53 (!decide (v11.partner=[])) 35) fun v67=>
    jw (f51 (I [ef,wW,v64,v67])) fun zB=>
    cond (decide (zB=0))
     (jw (vp ax v3 v11) fun v72=>
     jw (vq v72 v7 (⟨v9.name,v9.product,v9.version,v9.uses,v9.results,v9.partner,Eo,v9.aj⟩)) fun pP=>
     I (0,pP))
     (I (zB,ax)))
    (jw (f53 Eo 35) fun v76=>
    jw (f51 (I [ef,wW,v64,v76])) fun v78=>
    cond (decide (v78=0))
     (jw (vp ax v3 v11) fun v81=>
     jw (vq v81 v7 (⟨v9.name,v9.product,v9.version,v9.uses,v9.results,v9.partner,Eo,v9.aj⟩)) fun BV=>
     I (0,BV))
     (I (v78,ax))))
   (jw (f53 v11.aq 21) fun v85=>
   cond (decide (v9.partner=[]))
    (jw (f53 (!decide (v11.partner=[])) 35) fun XU=>
    jw (f51 (I [ef,wW,v85,XU])) fun PI=>
    cond (decide (PI=0))
     (jw (vp ax v3 v11) fun v93=>
     jw (vq v93 v7 (⟨v9.name,v9.product,v9.version,v9.uses,v9.results,v9.partner,Eh,v9.aj⟩)) fun XV=>
     I (0,XV))
     (I (PI,ax)))
    (jw (f53 Eo 35) fun Kg=>
    jw (f51 (I [ef,wW,v85,Kg])) fun PJ=>
    cond (decide (PJ=0))
     (jw (vp ax v3 v11) fun BW=>
     jw (vq BW v7 (⟨v9.name,v9.product,v9.version,v9.uses,v9.results,v9.partner,Eh,v9.aj⟩)) fun XW=>
     I (0,XW))
     (I (PJ,ax)))))
theorem zgm {a1 aM aJ aC ax x1 x2 x3 r}(h:f114 a1 aM aJ aC ax=I r):ze pr (X pr) 114 [.ptr 0 0,aE a1] [kR aM aJ aC ax,x1,x2,x3]=I (Iv r.1,Eh,[kR aM aJ aC r.2,x1,x2,x3]):=by
 unfold f114 at h
 rw[zf (show pr.bB 114=I tf from rfl) (by simp)]
 repeat' first|(replace h:=jx h;obtain⟨d,g,h⟩:=h; (with_reducible first|replace g:=vD g|replace g:=fC g|replace g:=lV g|replace g:=jkw g|replace g:=ji2 g|skip);try dsimp only[y7,hH,En,kh,zk,zw,zm,aQ,y9,vev,aV,zx,db,aE,aR,aU,aL,aP,aD]at g)|(replace h:=jz h;rcases h with⟨g,h⟩|⟨g,h⟩)|fail
 all_goals (cases h<;>(simp only[go_sem,seval,tf,zj, *]<;>rfl))
def f115 (a1:ql)(aM:Int)(aJ:Option (List qm))(aC:Option (List qq))(ax:Option (List qf)):Option (Int×(Option (List qm))):=
 jw (zn (a1.names.getD []) 0) fun v1=>
 jw (f72 (⟨aM,aJ,aC,ax⟩) v1) fun v3=>
 jw (zn (aJ.getD []) v3) fun v5=>
 cond v5.held
  (I (34,aJ))
  (jw (WR aJ v3) fun v8=>
  I (0,v8))
theorem zi1 {a1 aM aJ aC ax x1 x2 x3 r}(h:f115 a1 aM aJ aC ax=I r):ze pr (X pr) 115 [.ptr 0 0,aE a1] [kR aM aJ aC ax,x1,x2,x3]=I (Iv r.1,Eh,[kR aM r.2 aC ax,x1,x2,x3]):=by
 unfold f115 at h
 rw[zf (show pr.bB 115=I tj from rfl) (by simp)]
 repeat' first|(replace h:=jx h;obtain⟨d,g,h⟩:=h;with_reducible first|replace g:=BU g|replace g:=jjz g|skip)|(replace h:=jz h;rcases h with⟨g,h⟩|⟨g,h⟩)|fail
 all_goals (cases h<;>(simp only[go_sem,seval,tj,zj, *]<;>rfl))
def f116 (a1:ql)(aM:Int)(aJ:Option (List qm))(aC:Option (List qq))(ax:Option (List qf)):Option (Int×(Option (List qm))):=
 jw (zn (a1.names.getD []) 0) fun v1=>
 jw (f72 (⟨aM,aJ,aC,ax⟩) v1) fun v3=>
 jw (zn (aJ.getD []) v3) fun v5=>
 cond v5.held
  (jw (WS aJ v3) fun v8=>
  I (0,v8))
  (I (20,aJ))
theorem zbt {a1 aM aJ aC ax x1 x2 x3 r}(h:f116 a1 aM aJ aC ax=I r):ze pr (X pr) 116 [.ptr 0 0,aE a1] [kR aM aJ aC ax,x1,x2,x3]=I (Iv r.1,Eh,[kR aM r.2 aC ax,x1,x2,x3]):=by
 unfold f116 at h
 rw[zf (show pr.bB 116=I tm from rfl) (by simp)]
 repeat' first|(replace h:=jx h;obtain⟨d,g,h⟩:=h;with_reducible first|replace g:=BU g|replace g:=jjb g|skip)|(replace h:=jz h;rcases h with⟨g,h⟩|⟨g,h⟩)|fail
 all_goals (cases h<;>(simp only[go_sem,seval,tm,zj, *]<;>rfl))
def f118 (a1:ql)(aM:Int)(aJ:Option (List qm))(aC:Option (List qq))(ax:Option (List qf)):Option (Int×(Option (List qf))):=
 jw (zn (a1.names.getD []) 0) fun v1=>
 jw (f93 (⟨aM,aJ,aC,ax⟩) v1) fun v3=>
 jw (zn (ax.getD []) v3) fun v5=>
 cond v5.aq
  (jw (WV ax v3) fun v8=>
  I (0,v8))
  (I (20,ax))
theorem zbk {a1 aM aJ aC ax x1 x2 x3 r}(h:f118 a1 aM aJ aC ax=I r):ze pr (X pr) 118 [.ptr 0 0,aE a1] [kR aM aJ aC ax,x1,x2,x3]=I (Iv r.1,Eh,[kR aM aJ aC r.2,x1,x2,x3]):=by
 unfold f118 at h
 rw[zf (show pr.bB 118=I tn from rfl) (by simp)]
 repeat' first|(replace h:=jx h;obtain⟨d,g,h⟩:=h;with_reducible first|replace g:=vD g|replace g:=jgq g|skip)|(replace h:=jz h;rcases h with⟨g,h⟩|⟨g,h⟩)|fail
 all_goals (cases h<;>(simp only[go_sem,seval,tn,zj, *]<;>rfl))
end Go.Z
namespace Go.Z
open Go Go.Abs Go.W
def f111 (a1:ql)(aM:Int)(aJ:Option (List qm))(aC:Option (List qq))(ax:Option (List qf)):Option (Int×(Option (List qm))×(Option (List qf))):=
 jw (zn (a1.names.getD []) 0) fun v1=>
 jw (f93 (⟨aM,aJ,aC,ax⟩) v1) fun v3=>
 jw (zn (a1.names.getD []) 1) fun v5=>
 jw (f72 (⟨aM,aJ,aC,ax⟩) v5) fun v7=>
 jw (zn (a1.values.getD []) 1) fun v9=>
 jw (zn (ax.getD []) v3) fun v11=>
 jw (zn (aJ.getD []) v7) fun ef=>
 jw (f134 (⟨aM,aJ,aC,ax⟩) v11) fun eO=>
 jw (Ip eO.aI ef) fun hO=>
 jw (f53 v11.aq 21) fun nB=>
 jw (f53 (decide (v9=0)) 3) fun v21=>
 jw (f53 ef.held 34) fun jH=>
 jw (f53 (!hO) 7) fun Fu=>
 jw (f53 (decide (ef.left<v9)) 4) fun wV=>
 jw (f51 (I [nB,v21,jH,Fu,wV])) fun fc=>
 cond (decide (fc=0))
  (jw (WX aJ v7 v9) fun lm=>
  jw (f188 v11.uses ef) fun PK=>
  cond (decide (0≤PK))
   (jw (zn (v11.uses.getD []) PK) fun v37=>
   jw (fQ ax v3 (E9 ⟨ef.name,j6 .i64 (v9+v37.n)⟩ ef)) fun us=>I (fc,lm,us))
   (jw (fQ ax v3 (E9 ⟨ef.name,v9⟩ ef)) fun us=>I (fc,lm,us)))
  (I (fc,aJ,ax))
theorem zkf {a1 aM aJ aC ax x1 x2 x3 r}(h:f111 a1 aM aJ aC ax=I r):
  (r.1≠0∧r.2=(aJ,ax)∧ze pr (X pr) 111 [.ptr 0 0,aE a1] [kR aM aJ aC ax,x1,x2,x3]=I (Iv r.1,Eh,[kR aM aJ aC ax,x1,x2,x3])) ∨
  (r.1=0∧∃(n:Nat) (b:qn) (cs:List (qa×Bool)),ze pr (X pr) 111 [.ptr 0 0,aE a1] [kR aM aJ aC ax,x1,x2,x3]=I (Iv 0,Eh,[.cells [(Iv aM,Eh),(sl 5 zw r.2.1,Eh),(sl 4 zm aC,Eh),(.ms 5 0 n,Eh)],x1,x2,x3,b,.cells cs])∧cs.map (·.1)=yw aQ (r.2.2.getD [])∧n=(r.2.2.getD []).length∧0<n):=by
 unfold f111 at h
 obtain⟨v1,h2,h⟩:=jx h
 obtain⟨v3,h4,h⟩:=jx h
 have vG:jy pr (X pr) 93 [aG aM aJ aC ax,.str v1]=I (Iv v3,Eh):=vD h4
 obtain⟨v5,h6,h⟩:=jx h
 obtain⟨v7,h8,h⟩:=jx h
 have Fw:jy pr (X pr) 72 [aG aM aJ aC ax,.str v5]=I (Iv v7,Eh):=BU h8
 obtain⟨v9,jG,h⟩:=jx h
 obtain⟨v11,lS,h⟩:=jx h
 obtain⟨ef,oO,h⟩:=jx h
 obtain⟨eO,oM,h⟩:=jx h
 have BX:jy pr (X pr) 134 [aG aM aJ aC ax,aU v11]=I (aD eO,Eh):=PH oM
 obtain⟨hO,XE,h⟩:=jx h
 have BZ:jy pr (X pr) 168 [sl 2 aV eO.aI,.fn (.func 184) [] [.ah (aL ef)]]=I (.bool hO,Eh):=j6v XE
 obtain⟨nB,Hn,h⟩:=jx h
 have B2:jy pr (X pr) 53 [.bool v11.aq,Iv 21]=I (Iv nB,Eh):=fC Hn
 obtain⟨v21,Ho,h⟩:=jx h
 have B3:jy pr (X pr) 53 [.bool (decide (v9=0)),Iv 3]=I (Iv v21,Eh):=fC Ho
 obtain⟨jH,AV,h⟩:=jx h
 have B4:jy pr (X pr) 53 [.bool ef.held,Iv 34]=I (Iv jH,Eh):=fC AV
 obtain⟨Fu,Jh,h⟩:=jx h
 have B5:jy pr (X pr) 53 [.bool (!hO),Iv 7]=I (Iv Fu,Eh):=fC Jh
 obtain⟨wV,wK,h⟩:=jx h
 have B6:jy pr (X pr) 53 [.bool (decide (ef.left<v9)),Iv 4]=I (Iv wV,Eh):=fC wK
 obtain⟨fc,BM,h⟩:=jx h
 have B7:jy pr (X pr) 51 [.list Eh 1 [Iv nB,Iv v21,Iv jH,Iv Fu,Iv wV]]=I (Iv fc,Eh):=lV BM
 rcases jz h with⟨rP,h⟩|⟨rP,h⟩
 ·obtain⟨lm,h33,h⟩:=jx h
  have Kh:jy pr (X pr) 185 [sl 5 zw aJ,Iv v7,.fn (.func 186) [] [.ah (Iv v9)]]=I (sl 5 zw lm,Eh):=jfd h33
  obtain⟨PK,XX,h⟩:=jx h
  have Ki:jy pr (X pr) 188 [sl 2 aV v11.uses,.fn (.func 187) [] [.ah (aL ef)]]=I (Iv PK,Eh):=jt0 XX
  rcases jz h with⟨B8,h⟩|⟨B8,h⟩
  ·obtain⟨v37,Kj,h⟩:=jx h
   obtain⟨us,hu,h⟩:=jx h
   cases h
   obtain⟨n,x,y,rfl,hl,hx,hy,rfl⟩:=yW hu
   obtain⟨cs,g1,g2⟩:=jrl (b0:=(kR aM lm aC ax)) (b1:=x1) (b2:=x2) (b3:=x3) hx hy
   have w:=jlv hl (Ek.1 hx).1 g1
   simp only[q0s]at w
   refine .inr ⟨of_decide_eq_true rP,(ax.getD []).length,.cells [(.str ef.name,Eh),(Iv (j6 .i64 (v9+v37.n)),Eh)],cs,?_,g2,by simp,by have:=(Ek.1 hx).1;omega⟩
   rw[zf (show pr.bB 111=I kX from rfl) (by simp)]
   simp only[go_sem,seval,kX,yx h2,vG,yx h6,Fw,yx jG,yx lS,yx oO,BX,BZ,B2,B3,B4,B5,B6,B7,rP,Kh,Ki,B8,yx Kj,w,(show ∀n,below 5 (.ms 5 0 n)=Eh from fun _=>rfl),Ep,cond_false]
  ·obtain⟨us,hu,h⟩:=jx h
   cases h
   obtain⟨n,x,y,rfl,hl,hx,hy,rfl⟩:=yW hu
   obtain⟨cs,g1,g2⟩:=jrl (b0:=(kR aM lm aC ax)) (b1:=x1) (b2:=x2) (b3:=x3) hx hy
   have w:=jlv hl (Ek.1 hx).1 g1
   simp only[q0s]at w
   refine .inr ⟨of_decide_eq_true rP,(ax.getD []).length,.cells [(.str ef.name,Eh),(Iv v9,Eh)],cs,?_,g2,by simp,by have:=(Ek.1 hx).1;omega⟩
   rw[zf (show pr.bB 111=I kX from rfl) (by simp)]
   simp only[go_sem,seval,kX,yx h2,vG,yx h6,Fw,yx jG,yx lS,yx oO,BX,BZ,B2,B3,B4,B5,B6,B7,rP,Kh,Ki,B8,w,(show ∀n,below 5 (.ms 5 0 n)=Eh from fun _=>rfl),Ep,cond_false]
 ·cases h
  refine .inl ⟨of_decide_eq_false rP,rfl,?_⟩
  rw[zf (show pr.bB 111=I kX from rfl) (by simp)]
  simp only[go_sem,seval,kX,yx h2,vG,yx h6,Fw,yx jG,yx lS,yx oO,BX,BZ,B2,B3,B4,B5,B6,B7,rP]<;>rfl
end Go.Z
end
