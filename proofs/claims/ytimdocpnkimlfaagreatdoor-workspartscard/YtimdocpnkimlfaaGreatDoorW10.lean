/- Chapter 10. -/
import Derived.Test.YtimdocpnkimlfaaGreatDoorV3
set_option linter.unusedVariables false
set_option linter.unusedSimpArgs false
set_option maxRecDepth 100000
set_option maxHeartbeats 4000000
noncomputable section
open Option renaming some→I
open Bool renaming false→En,true→Gp,false_and→Gq
open List renaming getElem?_eq_some_iff→Ey,map→Gn
namespace Go.Z
open Go Go.Abs Go.W
def Cn (a1:List UInt8)(dS:Int)(dJ:List UInt8)(xW:List UInt8)(aX:Int)(aQ:Option (List jd))(aO:Option (List aS))(aA:Option (List ay)):Option (Option (List aS)):=
 qa (oC (⟨aX,aQ,aO,aA⟩) a1) fun v1=>
 qa (XP aO v1 dS dJ xW) fun v3=>
 I v3
theorem j17 {a1 dS dJ xW aX aQ aO aA x1 x2 x3 r}(h:Cn a1 dS dJ xW aX aQ aO aA=I r):qm pr (X pr) 212 [.ptr 0 0,.str a1,.fn (.func 213) [] [.ah (Iv dS),.ah (.fn (.func 211) [] [.ah (.str dJ)]),.ah (.str xW)]] [kR aX aQ aO aA,x1,x2,x3]=I (.aB [],En,[kR aX aQ r aA,x1,x2,x3]):=by
 unfold Cn at h
 rw[qn (show pr.bQ 212=I n9 from rfl) (by simp)]
 repeat' first|(replace h:=qb h;obtain⟨d,g,h⟩:=h;with_reducible first|replace g:=wy g|replace g:=jkm g|skip)|(replace h:=qd h;rcases h with⟨g,h⟩|⟨g,h⟩)
 all_goals (cases h<;>(simp only[go_sem,seval,n9, *]<;>rfl))
def Fs (a1:List UInt8)(dS:je)(dJ:je)(aX:Int)(aQ:Option (List jd))(aO:Option (List aS))(aA:Option (List ay)):Option (Option (List aS)):=
 qa (oC (⟨aX,aQ,aO,aA⟩) a1) fun v1=>
 qa (XQ aO v1 dS dJ) fun v3=>
 I v3
theorem j7l {a1 dS dJ aX aQ aO aA x1 x2 x3 r}(h:Fs a1 dS dJ aX aQ aO aA=I r):qm pr (X pr) 212 [.ptr 0 0,.str a1,.fn (.func 219) [] [.ah (aT dS),.ah (.fn (.func 217) [] [.ah (aT dJ)])]] [kR aX aQ aO aA,x1,x2,x3]=I (.aB [],En,[kR aX aQ r aA,x1,x2,x3]):=by
 unfold Fs at h
 obtain⟨v1,h2,h⟩:=qb h
 have sX:qc pr (X pr) 161 [aG aX aQ aO aA,.str a1]=I (Iv v1,En):=wy h2
 obtain⟨v3,h4,h⟩:=qb h
 have C8:qc pr (X pr) 221 [sl 4 qv aO,Iv v1,.fn (.func 270) [] [.ah (.fn (.func 219) [] [.ah (aT dS),.ah (.fn (.func 217) [] [.ah (aT dJ)])])]]=I (sl 4 qv v3,En):=jim h4
 have hr:v3=r:=I.inj h
 subst hr
 rw[qn (show pr.bQ 212=I n9 from rfl) (by simp)]
 simp only[go_sem,seval,n9,sX,C8]<;>rfl
def Jc (a1:GEv)(aX:Int)(aQ:Option (List jd))(aO:Option (List aS))(aA:Option (List ay)):Option (Int×(Option (List jd))×Bool):=
 qa (qr (a1.names.getD []) 0) fun v1=>
 qa (f64 (⟨aX,aQ,aO,aA⟩) v1) fun v3=>
 qa (f48 (decide (0≤v3)) 9) fun v5=>
 qa (qr (a1.values.getD []) 1) fun v7=>
 qa (f60 v7 1 10000) fun v9=>
 qa (f48 (decide (64≤((aQ.getD []).length:Int))) 5) fun v11=>
 qa (f46 (I [v5,v9,v11])) fun eQ=>
 cond (decide (eQ=0))
  (qa (qr (a1.names.getD []) 1) fun eh=>
  qa (Nr aQ (⟨v1,eh,v7,v7,En⟩)) fun jK=>
  I (0,jK,Gp))
  (I (eQ,aQ,En))
theorem zf2 {a1 aX aQ aO aA x1 x2 x3 r}(h:Jc a1 aX aQ aO aA=I r):qm pr (X pr) 168 [.ptr 0 0,aE a1] [kR aX aQ aO aA,x1,x2,x3]=I (Iv r.1,En,[kS aX r.2.1 r.2.2 aO En aA En,x1,x2,x3]):=by
 unfold Jc at h
 rw[qn (show pr.bQ 168=I tJ from rfl) (by simp)]
 repeat' first|(replace h:=qb h;obtain⟨d,g,h⟩:=h; (with_reducible first|replace g:=C9 g|replace g:=gg g|replace g:=O9 g|replace g:=mf g|replace g:=zlc g|skip);try dsimp only[zk,lD,Gn,jm,j9,jc,qv,aY,zo,vev,bn,ja,yq,aE,aR,aU,aL,aP,aD]at g)|(replace h:=qd h;rcases h with⟨g,h⟩|⟨g,h⟩)
 all_goals (cases h<;>(simp only[go_sem,seval,tJ,jg, *]<;>rfl))
def f169 (a1:GEv)(aX:Int)(aQ:Option (List jd))(aO:Option (List aS))(aA:Option (List ay)):Option (Int×(Option (List aS))×Bool):=
 qa (qr (a1.names.getD []) 0) fun v1=>
 qa (oC (⟨aX,aQ,aO,aA⟩) v1) fun v3=>
 qa (f48 (decide (0≤v3)) 9) fun v5=>
 qa (f48 (decide (16≤((aO.getD []).length:Int))) 5) fun v7=>
 qa (f46 (I [v5,v7])) fun v9=>
 cond (decide (v9=0))
  (qa (Ns aO (⟨v1,none,none,none⟩)) fun v12=>
  I (0,v12,Gp))
  (I (v9,aO,En))
theorem zio {a1 aX aQ aO aA x1 x2 x3 r}(h:f169 a1 aX aQ aO aA=I r):qm pr (X pr) 169 [.ptr 0 0,aE a1] [kR aX aQ aO aA,x1,x2,x3]=I (Iv r.1,En,[kS aX aQ En r.2.1 r.2.2 aA En,x1,x2,x3]):=by
 unfold f169 at h
 rw[qn (show pr.bQ 169=I tK from rfl) (by simp)]
 repeat' first|(replace h:=qb h;obtain⟨d,g,h⟩:=h; (with_reducible first|replace g:=wy g|replace g:=gg g|replace g:=mf g|replace g:=zfs g|skip);try dsimp only[zk,lD,Gn,jm,j9,jc,qv,aY,zo,vev,bn,ja,yq,aE,aR,aU,aL,aP,aD]at g)|(replace h:=qd h;rcases h with⟨g,h⟩|⟨g,h⟩)
 all_goals (cases h<;>(simp only[go_sem,seval,tK,jg, *]<;>rfl))
def f170 (a1:GEv)(aX:Int)(aQ:Option (List jd))(aO:Option (List aS))(aA:Option (List ay)):Option (Int×(Option (List aS))):=
 qa (qr (a1.names.getD []) 1) fun v1=>
 qa (qr (a1.values.getD []) 1) fun v3=>
 qa (qr (a1.names.getD []) 0) fun v5=>
 qa (oC (⟨aX,aQ,aO,aA⟩) v5) fun v7=>
 qa (qr (aO.getD []) v7) fun v9=>
 qa (f60 v3 0 10000) fun v11=>
 cond (decide (0<v3))
  (qa (IZ v9.dn v1) fun fq=>
  cond fq
   (qa (f48 En 5) fun jJ=>
   qa (f46 (I [v11,jJ])) fun oc=>
   cond (decide (oc=0))
    (qa (Cn v5 v3 v1 v1 aX aQ aO aA) fun v22=>
    I (0,v22))
    (I (oc,aO)))
   (qa (f48 (decide (16≤((v9.dn.getD []).length:Int))) 5) fun v24=>
   qa (f46 (I [v11,v24])) fun v26=>
   cond (decide (v26=0))
    (qa (Cn v5 v3 v1 v1 aX aQ aO aA) fun ik=>
    I (0,ik))
    (I (v26,aO))))
  (qa (f48 En 5) fun v31=>
  qa (f46 (I [v11,v31])) fun xI=>
  cond (decide (xI=0))
   (qa (Cn v5 v3 v1 v1 aX aQ aO aA) fun Ax=>
   I (0,Ax))
   (I (xI,aO)))
theorem zc1 {a1 aX aQ aO aA x1 x2 x3 r}(h:f170 a1 aX aQ aO aA=I r):qm pr (X pr) 170 [.ptr 0 0,aE a1] [kR aX aQ aO aA,x1,x2,x3]=I (Iv r.1,En,[kR aX aQ r.2 aA,x1,x2,x3]):=by
 unfold f170 at h
 rw[qn (show pr.bQ 170=I tL from rfl) (by simp)]
 repeat' first|(replace h:=qb h;obtain⟨d,g,h⟩:=h; (with_reducible first|replace g:=wy g|replace g:=O9 g|replace g:=j7h g|replace g:=gg g|replace g:=mf g|replace g:=j17 (x1:=x1) (x2:=x2) (x3:=x3) g|skip);try dsimp only[zk,lD,Gn,jm,j9,jc,qv,aY,zo,vev,bn,ja,yq,aE,aR,aU,aL,aP,aD]at g)|(replace h:=qd h;rcases h with⟨g,h⟩|⟨g,h⟩)
 all_goals (cases h<;>(simp only[go_sem,seval,tL,jg, *]<;>rfl))
def f171 (a1:GEv)(aX:Int)(aQ:Option (List jd))(aO:Option (List aS))(aA:Option (List ay)):Option (Int×(Option (List aS))):=
 qa (qr (a1.names.getD []) 1) fun v1=>
 qa (qr (a1.values.getD []) 1) fun v3=>
 qa (qr (a1.values.getD []) 2) fun v5=>
 qa (qr (a1.names.getD []) 0) fun v7=>
 qa (oC (⟨aX,aQ,aO,aA⟩) v7) fun v9=>
 qa (qr (aO.getD []) v9) fun v11=>
 qa (f48 (decide (v5<v3)) 11) fun eQ=>
 qa (I3 v11.dt (⟨v1,v3,v5⟩)) fun fP=>
 cond fP
  (qa (f48 En 5) fun jK=>
  qa (f46 (I [eQ,jK])) fun v20=>
  cond (decide (v20=0))
   (qa (Fs v7 (⟨v1,v3,v5⟩) (⟨v1,v3,v5⟩) aX aQ aO aA) fun v23=>
   I (0,v23))
   (I (v20,aO)))
  (qa (f48 (decide (16≤((v11.dt.getD []).length:Int))) 5) fun v25=>
  qa (f46 (I [eQ,v25])) fun xX=>
  cond (decide (xX=0))
   (qa (Fs v7 (⟨v1,v3,v5⟩) (⟨v1,v3,v5⟩) aX aQ aO aA) fun v30=>
   I (0,v30))
   (I (xX,aO)))
theorem zlp {a1 aX aQ aO aA x1 x2 x3 r}(h:f171 a1 aX aQ aO aA=I r):qm pr (X pr) 171 [.ptr 0 0,aE a1] [kR aX aQ aO aA,x1,x2,x3]=I (Iv r.1,En,[kR aX aQ r.2 aA,x1,x2,x3]):=by
 unfold f171 at h
 rw[qn (show pr.bQ 171=I tM from rfl) (by simp)]
 repeat' first|(replace h:=qb h;obtain⟨d,g,h⟩:=h; (with_reducible first|replace g:=wy g|replace g:=gg g|replace g:=j11 g|replace g:=mf g|replace g:=j7l (x1:=x1) (x2:=x2) (x3:=x3) g|skip);try dsimp only[zk,lD,Gn,jm,j9,jc,qv,aY,zo,vev,bn,ja,yq,aE,aR,aU,aL,aP,aD]at g)|(replace h:=qd h;rcases h with⟨g,h⟩|⟨g,h⟩)
 all_goals (cases h<;>(simp only[go_sem,seval,tM,jg, *]<;>rfl))
def Jh (a1:GEv)(aX:Int)(aQ:Option (List jd))(aO:Option (List aS))(aA:Option (List ay)):Option (Int×(Option (List aS))):=
 qa (qr (a1.names.getD []) 0) fun v1=>
 qa (oC (⟨aX,aQ,aO,aA⟩) v1) fun v3=>
 qa (qr (aO.getD []) v3) fun v5=>
 qa (f48 (decide (((v5.dn.getD []).length:Int)=0)) 12) fun v7=>
 qa (f48 (decide (100≤((v5.aM.getD []).length:Int))) 5) fun v9=>
 qa (f46 (I [v7,v9])) fun v11=>
 cond (decide (v11=0))
  (qa (NB aO v3) fun fq=>
  I (0,fq))
  (I (v11,aO))
theorem zfw {a1 aX aQ aO aA x1 x2 x3 r}(h:Jh a1 aX aQ aO aA=I r):qm pr (X pr) 172 [.ptr 0 0,aE a1] [kR aX aQ aO aA,x1,x2,x3]=I (Iv r.1,En,[kR aX aQ r.2 aA,x1,x2,x3]):=by
 unfold Jh at h
 rw[qn (show pr.bQ 172=I tN from rfl) (by simp)]
 repeat' first|(replace h:=qb h;obtain⟨d,g,h⟩:=h; (with_reducible first|replace g:=wy g|replace g:=gg g|replace g:=mf g|replace g:=jm6 g|skip);try dsimp only[zk,lD,Gn,jm,j9,jc,qv,aY,zo,vev,bn,ja,yq,aE,aR,aU,aL,aP,aD]at g)|(replace h:=qd h;rcases h with⟨g,h⟩|⟨g,h⟩)
 all_goals (cases h<;>(simp only[go_sem,seval,tN,jg, *]<;>rfl))
def Jd (a1:GEv)(aX:Int)(aQ:Option (List jd))(aO:Option (List aS))(aA:Option (List ay)):Option (Int×(Option (List ay))×Bool):=
 qa (qr (a1.names.getD []) 1) fun v1=>
 qa (oC (⟨aX,aQ,aO,aA⟩) v1) fun v3=>
 qa (qr (aO.getD []) v3) fun v5=>
 qa (Ff v5) fun v7=>
 qa (qr (a1.names.getD []) 0) fun v9=>
 qa (f76 (⟨aX,aQ,aO,aA⟩) v9) fun v11=>
 qa (f48 (decide (0≤v11)) 9) fun eQ=>
 qa (f48 (decide (v7=0)) 32) fun fP=>
 qa (f48 (decide (256≤((aA.getD []).length:Int))) 5) fun jJ=>
 qa (f46 (I [eQ,fP,jJ])) fun oc=>
 cond (decide (oc=0))
  (qa (f225 aA (⟨v9,v1,v7,none,none,[],En,0⟩)) fun v22=>
  I (0,v22,Gp))
  (I (oc,aA,En))
theorem ziu {a1 aX aQ aO aA x1 x2 x3 r}(h:Jd a1 aX aQ aO aA=I r):qm pr (X pr) 173 [.ptr 0 0,aE a1] [kR aX aQ aO aA,x1,x2,x3]=I (Iv r.1,En,[kS aX aQ En aO En r.2.1 r.2.2,x1,x2,x3]):=by
 unfold Jd at h
 rw[qn (show pr.bQ 173=I tO from rfl) (by simp)]
 repeat' first|(replace h:=qb h;obtain⟨d,g,h⟩:=h; (with_reducible first|replace g:=wy g|replace g:=jte g|replace g:=xY g|replace g:=gg g|replace g:=mf g|replace g:=zjw g|skip);try dsimp only[zk,lD,Gn,jm,j9,jc,qv,aY,zo,vev,bn,ja,yq,aE,aR,aU,aL,aP,aD]at g)|(replace h:=qd h;rcases h with⟨g,h⟩|⟨g,h⟩)
 all_goals (cases h<;>(simp only[go_sem,seval,tO,jg, *]<;>rfl))
def Jn (a1:GEv)(aX:Int)(aQ:Option (List jd))(aO:Option (List aS))(aA:Option (List ay)):Option (Int×(Option (List ay))):=
 qa (qr (a1.names.getD []) 0) fun v1=>
 qa (f76 (⟨aX,aQ,aO,aA⟩) v1) fun v3=>
 qa (qr (aA.getD []) v3) fun v5=>
 qa (pY (⟨aX,aQ,aO,aA⟩) v5) fun v7=>
 qa (I4 v7.az a1) fun v9=>
 qa (f48 v5.shipped 21) fun v11=>
 qa (f48 (!v9) 7) fun eQ=>
 qa (f48 (decide (64≤((v5.results.getD []).length:Int))) 5) fun fP=>
 qa (f46 (I [v11,eQ,fP])) fun jJ=>
 cond (decide (jJ=0))
  (qa (XX aA v3 a1) fun v20=>
  I (0,v20))
  (I (jJ,aA))
theorem zeb {a1 aX aQ aO aA x1 x2 x3 r}(h:Jn a1 aX aQ aO aA=I r):qm pr (X pr) 175 [.ptr 0 0,aE a1] [kR aX aQ aO aA,x1,x2,x3]=I (Iv r.1,En,[kR aX aQ aO r.2,x1,x2,x3]):=by
 unfold Jn at h
 rw[qn (show pr.bQ 175=I tP from rfl) (by simp)]
 repeat' first|(replace h:=qb h;obtain⟨d,g,h⟩:=h; (with_reducible first|replace g:=xY g|replace g:=P2 g|replace g:=j20 g|replace g:=gg g|replace g:=mf g|replace g:=jis g|skip);try dsimp only[zk,lD,Gn,jm,j9,jc,qv,aY,zo,vev,bn,ja,yq,aE,aR,aU,aL,aP,aD]at g)|(replace h:=qd h;rcases h with⟨g,h⟩|⟨g,h⟩)
 all_goals (cases h<;>(simp only[go_sem,seval,tP,jg, *]<;>rfl))
def Jk (a1:GEv)(aX:Int)(aQ:Option (List jd))(aO:Option (List aS))(aA:Option (List ay)):Option (Int×(Option (List ay))):=
 qa (qr (a1.names.getD []) 0) fun v1=>
 qa (f76 (⟨aX,aQ,aO,aA⟩) v1) fun v3=>
 qa (qr (aA.getD []) v3) fun v5=>
 qa (Fc (⟨aX,aQ,aO,aA⟩) v5) fun v7=>
 qa (f48 v5.shipped 21) fun v9=>
 qa (f48 (decide (v5.version=v7)) 32) fun v11=>
 qa (f46 (I [v9,v11])) fun eQ=>
 cond (decide (eQ=0))
  (qa (XU aA v3 v7) fun eh=>
  I (0,eh))
  (I (eQ,aA))
theorem zhk {a1 aX aQ aO aA x1 x2 x3 r}(h:Jk a1 aX aQ aO aA=I r):qm pr (X pr) 176 [.ptr 0 0,aE a1] [kR aX aQ aO aA,x1,x2,x3]=I (Iv r.1,En,[kR aX aQ aO r.2,x1,x2,x3]):=by
 unfold Jk at h
 rw[qn (show pr.bQ 176=I tQ from rfl) (by simp)]
 repeat' first|(replace h:=qb h;obtain⟨d,g,h⟩:=h; (with_reducible first|replace g:=xY g|replace g:=juw g|replace g:=gg g|replace g:=mf g|replace g:=jms g|skip);try dsimp only[zk,lD,Gn,jm,j9,jc,qv,aY,zo,vev,bn,ja,yq,aE,aR,aU,aL,aP,aD]at g)|(replace h:=qd h;rcases h with⟨g,h⟩|⟨g,h⟩)
 all_goals (cases h<;>(simp only[go_sem,seval,tQ,jg, *]<;>rfl))
def Jq (a1:GEv)(aX:Int)(aQ:Option (List jd))(aO:Option (List aS))(aA:Option (List ay)):Option (Int×(Option (List ay))):=
 qa (qr (a1.names.getD []) 0) fun v1=>
 qa (f76 (⟨aX,aQ,aO,aA⟩) v1) fun v3=>
 qa (qr (a1.names.getD []) 1) fun v5=>
 qa (f76 (⟨aX,aQ,aO,aA⟩) v5) fun v7=>
 qa (qr (aA.getD []) v3) fun v9=>
 qa (qr (aA.getD []) v7) fun v11=>
 qa (f48 (decide (v3=v7)) 9) fun eQ=>
 cond (decide (v9.product=v11.product))
  (qa (f48 (!decide (v9.version=v11.version)) 30) fun eh=>
  cond v9.shipped
   (qa (f48 Gp 21) fun oc=>
   cond (decide (v9.partner=[]))
    (qa (f48 (!decide (v11.partner=[])) 35) fun v22=>
    qa (f46 (I [eQ,eh,oc,v22])) fun v24=>
    cond (decide (v24=0))
     (qa (vU aA v3 v11) fun xX=>
     qa (vV xX v7 (⟨v9.name,v9.product,v9.version,v9.uses,v9.results,v9.partner,Gp,v9.ai⟩)) fun ik=>
     I (0,ik))
     (I (v24,aA)))
    (qa (f48 Gp 35) fun v31=>
    qa (f46 (I [eQ,eh,oc,v31])) fun xI=>
    cond (decide (xI=0))
     (qa (vU aA v3 v11) fun Ax=>
     qa (vV Ax v7 (⟨v9.name,v9.product,v9.version,v9.uses,v9.results,v9.partner,Gp,v9.ai⟩)) fun CX=>
     I (0,CX))
     (I (xI,aA))))
   (qa (f48 v11.shipped 21) fun v40=>
   cond (decide (v9.partner=[]))
    (qa (f48 (!decide (v11.partner=[])) 35) fun Ko=>
    qa (f46 (I [eQ,eh,v40,Ko])) fun Aw=>
    cond (decide (Aw=0))
     (qa (vU aA v3 v11) fun Zd=>
     qa (vV Zd v7 (⟨v9.name,v9.product,v9.version,v9.uses,v9.results,v9.partner,En,v9.ai⟩)) fun v50=>
     I (0,v50))
     (I (Aw,aA)))
    (qa (f48 Gp 35) fun v52=>
    qa (f46 (I [eQ,eh,v40,v52])) fun P3=>
    cond (decide (P3=0))
     (qa (vU aA v3 v11) fun P4=>
     qa (vV P4 v7 (⟨v9.name,v9.product,v9.version,v9.uses,v9.results,v9.partner,En,v9.ai⟩)) fun v59=>
     I (0,v59))
     (I (P3,aA)))))
  (qa (f48 Gp 30) fun xQ=>
  cond v9.shipped
   (qa (f48 Gp 21) fun v64=>
   cond (decide (v9.partner=[]))
    (qa (f48 (!decide (v11.partner=[])) 35) fun v67=>
    qa (f46 (I [eQ,xQ,v64,v67])) fun v69=>
    cond (decide (v69=0))
     (qa (vU aA v3 v11) fun v72=>
     qa (vV v72 v7 (⟨v9.name,v9.product,v9.version,v9.uses,v9.results,v9.partner,Gp,v9.ai⟩)) fun v74=>
     I (0,v74))
     (I (v69,aA)))
    (qa (f48 Gp 35) fun v76=>
    qa (f46 (I [eQ,xQ,v64,v76])) fun v78=>
    cond (decide (v78=0))
     (qa (vU aA v3 v11) fun v81=>
     qa (vV v81 v7 (⟨v9.name,v9.product,v9.version,v9.uses,v9.results,v9.partner,Gp,v9.ai⟩)) fun Zi=>
     I (0,Zi))
     (I (v78,aA))))
   (qa (f48 v11.shipped 21) fun v85=>
   cond (decide (v9.partner=[]))
    (qa (f48 (!decide (v11.partner=[])) 35) fun Zj=>
    qa (f46 (I [eQ,xQ,v85,Zj])) fun P5=>
    cond (decide (P5=0))
     (qa (vU aA v3 v11) fun v93=>
     qa (vV v93 v7 (⟨v9.name,v9.product,v9.version,v9.uses,v9.results,v9.partner,En,v9.ai⟩)) fun Zk=>
     I (0,Zk))
     (I (P5,aA)))
    (qa (f48 Gp 35) fun Zl=>
    qa (f46 (I [eQ,xQ,v85,Zl])) fun P6=>
    cond (decide (P6=0))
     (qa (vU aA v3 v11) fun Zm=>
     qa (vV Zm v7 (⟨v9.name,v9.product,v9.version,v9.uses,v9.results,v9.partner,En,v9.ai⟩)) fun Zn=>
     I (0,Zn))
     (I (P6,aA)))))
theorem zi1 {a1 aX aQ aO aA x1 x2 x3 r}(h:Jq a1 aX aQ aO aA=I r):qm pr (X pr) 177 [.ptr 0 0,aE a1] [kR aX aQ aO aA,x1,x2,x3]=I (Iv r.1,En,[kR aX aQ aO r.2,x1,x2,x3]):=by
 unfold Jq at h
 rw[qn (show pr.bQ 177=I tR from rfl) (by simp)]
 repeat' first|(replace h:=qb h;obtain⟨d,g,h⟩:=h; (with_reducible first|replace g:=xY g|replace g:=gg g|replace g:=mf g|replace g:=jjw g|replace g:=jjx g|skip);try dsimp only[zk,lD,Gn,jm,j9,jc,qv,aY,zo,vev,bn,ja,yq,aE,aR,aU,aL,aP,aD]at g)|(replace h:=qd h;rcases h with⟨g,h⟩|⟨g,h⟩)
 all_goals (cases h<;>(simp only[go_sem,seval,tR,jg, *]<;>rfl))
def Ji (a1:GEv)(aX:Int)(aQ:Option (List jd))(aO:Option (List aS))(aA:Option (List ay)):Option (Int×(Option (List jd))):=
 qa (qr (a1.names.getD []) 0) fun v1=>
 qa (f64 (⟨aX,aQ,aO,aA⟩) v1) fun v3=>
 qa (qr (aQ.getD []) v3) fun v5=>
 cond v5.held
  (I (34,aQ))
  (qa (XR aQ v3) fun v8=>
  I (0,v8))
theorem zc6 {a1 aX aQ aO aA x1 x2 x3 r}(h:Ji a1 aX aQ aO aA=I r):qm pr (X pr) 178 [.ptr 0 0,aE a1] [kR aX aQ aO aA,x1,x2,x3]=I (Iv r.1,En,[kR aX r.2 aO aA,x1,x2,x3]):=by
 unfold Ji at h
 rw[qn (show pr.bQ 178=I tS from rfl) (by simp)]
 repeat' first|(replace h:=qb h;obtain⟨d,g,h⟩:=h;with_reducible first|replace g:=C9 g|replace g:=jmh g|skip)|(replace h:=qd h;rcases h with⟨g,h⟩|⟨g,h⟩)
 all_goals (cases h<;>(simp only[go_sem,seval,tS,jg, *]<;>rfl))
def Jj (a1:GEv)(aX:Int)(aQ:Option (List jd))(aO:Option (List aS))(aA:Option (List ay)):Option (Int×(Option (List jd))):=
 qa (qr (a1.names.getD []) 0) fun v1=>
 qa (f64 (⟨aX,aQ,aO,aA⟩) v1) fun v3=>
 qa (qr (aQ.getD []) v3) fun v5=>
 cond v5.held
  (qa (XS aQ v3) fun v8=>
  I (0,v8))
  (I (20,aQ))
theorem zhl {a1 aX aQ aO aA x1 x2 x3 r}(h:Jj a1 aX aQ aO aA=I r):qm pr (X pr) 179 [.ptr 0 0,aE a1] [kR aX aQ aO aA,x1,x2,x3]=I (Iv r.1,En,[kR aX r.2 aO aA,x1,x2,x3]):=by
 unfold Jj at h
 rw[qn (show pr.bQ 179=I tT from rfl) (by simp)]
 repeat' first|(replace h:=qb h;obtain⟨d,g,h⟩:=h;with_reducible first|replace g:=C9 g|replace g:=ji3 g|skip)|(replace h:=qd h;rcases h with⟨g,h⟩|⟨g,h⟩)
 all_goals (cases h<;>(simp only[go_sem,seval,tT,jg, *]<;>rfl))
def Jm (a1:GEv)(aX:Int)(aQ:Option (List jd))(aO:Option (List aS))(aA:Option (List ay)):Option (Int×(Option (List ay))):=
 qa (qr (a1.names.getD []) 0) fun v1=>
 qa (f76 (⟨aX,aQ,aO,aA⟩) v1) fun v3=>
 qa (qr (aA.getD []) v3) fun v5=>
 cond v5.shipped
  (qa (XW aA v3) fun v8=>
  I (0,v8))
  (I (20,aA))
theorem zfo {a1 aX aQ aO aA x1 x2 x3 r}(h:Jm a1 aX aQ aO aA=I r):qm pr (X pr) 181 [.ptr 0 0,aE a1] [kR aX aQ aO aA,x1,x2,x3]=I (Iv r.1,En,[kR aX aQ aO r.2,x1,x2,x3]):=by
 unfold Jm at h
 rw[qn (show pr.bQ 181=I tU from rfl) (by simp)]
 repeat' first|(replace h:=qb h;obtain⟨d,g,h⟩:=h;with_reducible first|replace g:=xY g|replace g:=jj0 g|skip)|(replace h:=qd h;rcases h with⟨g,h⟩|⟨g,h⟩)
 all_goals (cases h<;>(simp only[go_sem,seval,tU,jg, *]<;>rfl))
end Go.Z
namespace Go.Z
open Go Go.Abs Go.W
def Jo (a1:GEv)(aX:Int)(aQ:Option (List jd))(aO:Option (List aS))(aA:Option (List ay)):Option (Int×(Option (List jd))×(Option (List ay))):=
 qa (qr (a1.names.getD []) 0) fun v1=>
 qa (f76 (⟨aX,aQ,aO,aA⟩) v1) fun v3=>
 qa (qr (a1.names.getD []) 1) fun v5=>
 qa (f64 (⟨aX,aQ,aO,aA⟩) v5) fun v7=>
 qa (qr (a1.values.getD []) 1) fun v9=>
 qa (qr (aA.getD []) v3) fun v11=>
 qa (qr (aQ.getD []) v7) fun eQ=>
 qa (pY (⟨aX,aQ,aO,aA⟩) v11) fun fP=>
 qa (I1 fP.aK eQ) fun jJ=>
 qa (f48 v11.shipped 21) fun oc=>
 qa (f48 (decide (v9=0)) 3) fun v21=>
 qa (f48 eQ.held 34) fun v23=>
 qa (f48 (!jJ) 7) fun v25=>
 qa (f48 (decide (eQ.left<v9)) 4) fun xX=>
 qa (f46 (I [oc,v21,v23,v25,xX])) fun ik=>
 cond (decide (ik=0))
  (qa (XY aQ v7 v9) fun lG=>
  qa (zW v11.uses eQ) fun P7=>
  cond (decide (0≤P7))
   (qa (qr (v11.uses.getD []) P7) fun v37=>
   qa (gD aA v3 (Ft ⟨eQ.name,qe .i64 (v9+v37.n)⟩ eQ)) fun us=>I (ik,lG,us))
   (qa (gD aA v3 (Ft ⟨eQ.name,v9⟩ eQ)) fun us=>I (ik,lG,us)))
  (I (ik,aQ,aA))
theorem zer {a1 aX aQ aO aA x1 x2 x3 r}(h:Jo a1 aX aQ aO aA=I r):
  (r.1≠0∧r.2=(aQ,aA)∧qm pr (X pr) 174 [.ptr 0 0,aE a1] [kR aX aQ aO aA,x1,x2,x3]=I (Iv r.1,En,[kR aX aQ aO aA,x1,x2,x3])) ∨
  (r.1=0∧∃(n:Nat) (b:bh) (cs:List (AVal×Bool)),qm pr (X pr) 174 [.ptr 0 0,aE a1] [kR aX aQ aO aA,x1,x2,x3]=I (Iv 0,En,[.cells [(Iv aX,En),(sl 5 jc r.2.1,En),(sl 4 qv aO,En),(.ms 5 0 n,En)],x1,x2,x3,b,.cells cs])∧cs.map (·.1)=ze aY (r.2.2.getD [])∧n=(r.2.2.getD []).length∧0<n):=by
 unfold Jo at h
 obtain⟨v1,h2,h⟩:=qb h
 obtain⟨v3,h4,h⟩:=qb h
 have C8:qc pr (X pr) 76 [aG aX aQ aO aA,.str v1]=I (Iv v3,En):=xY h4
 obtain⟨v5,h6,h⟩:=qb h
 obtain⟨v7,h8,h⟩:=qb h
 have Zo:qc pr (X pr) 64 [aG aX aQ aO aA,.str v5]=I (Iv v7,En):=C9 h8
 obtain⟨v9,l8,h⟩:=qb h
 obtain⟨v11,l9,h⟩:=qb h
 obtain⟨eQ,po,h⟩:=qb h
 obtain⟨fP,nS,h⟩:=qb h
 have Da:qc pr (X pr) 126 [aG aX aQ aO aA,aU v11]=I (aD fP,En):=P2 nS
 obtain⟨jJ,YC,h⟩:=qb h
 have Db:qc pr (X pr) 193 [sl 2 bn fP.aK,.fn (.func 226) [] [.ah (aL eQ)]]=I (.bool jJ,En):=j6z YC
 obtain⟨oc,BO,h⟩:=qb h
 have Dc:qc pr (X pr) 48 [.bool v11.shipped,Iv 21]=I (Iv oc,En):=gg BO
 obtain⟨v21,BP,h⟩:=qb h
 have Dd:qc pr (X pr) 48 [.bool (decide (v9=0)),Iv 3]=I (Iv v21,En):=gg BP
 obtain⟨v23,BQ,h⟩:=qb h
 have De:qc pr (X pr) 48 [.bool eQ.held,Iv 34]=I (Iv v23,En):=gg BQ
 obtain⟨v25,JR,h⟩:=qb h
 have Df:qc pr (X pr) 48 [.bool (!jJ),Iv 7]=I (Iv v25,En):=gg JR
 obtain⟨xX,JS,h⟩:=qb h
 have Dg:qc pr (X pr) 48 [.bool (decide (eQ.left<v9)),Iv 4]=I (Iv xX,En):=gg JS
 obtain⟨ik,JT,h⟩:=qb h
 have Dh:qc pr (X pr) 46 [.list En 1 [Iv oc,Iv v21,Iv v23,Iv v25,Iv xX]]=I (Iv ik,En):=mf JT
 rcases qd h with⟨xq,h⟩|⟨xq,h⟩
 ·obtain⟨lG,Zp,h⟩:=qb h
  have Kp:qc pr (X pr) 227 [sl 5 jc aQ,Iv v7,.fn (.func 228) [] [.ah (Iv v9)]]=I (sl 5 jc lG,En):=jnz Zp
  obtain⟨P7,h35,h⟩:=qb h
  have Kq:qc pr (X pr) 230 [sl 2 bn v11.uses,.fn (.func 229) [] [.ah (aL eQ)]]=I (Iv P7,En):=ju8 h35
  rcases qd h with⟨Zq,h⟩|⟨Zq,h⟩
  ·obtain⟨v37,Zr,h⟩:=qb h
   obtain⟨us,hu,h⟩:=qb h
   cases h
   obtain⟨n,x,y,rfl,hl,hx,hy,rfl⟩:=Av hu
   obtain⟨cs,g1,g2⟩:=jvy (b0:=(kR aX lG aO aA)) (b1:=x1) (b2:=x2) (eJ:=x3) hx hy
   have w:=jov hl (Ey.1 hx).1 g1
   simp only[q0z]at w
   refine .inr ⟨of_decide_eq_true xq,(aA.getD []).length,.cells [(.str eQ.name,En),(Iv (qe .i64 (v9+v37.n)),En)],cs,?_,g2,by simp,by have:=(Ey.1 hx).1;omega⟩
   rw[qn (show pr.bQ 174=I lu from rfl) (by simp)]
   simp only[go_sem,seval,lu,yb h2,C8,yb h6,Zo,yb l8,yb l9,yb po,Da,Db,Dc,Dd,De,Df,Dg,Dh,xq,Kp,Kq,Zq,yb Zr,w,(show ∀n,below 5 (.ms 5 0 n)=En from fun _=>rfl),Gq,cond_false]
  ·obtain⟨us,hu,h⟩:=qb h
   cases h
   obtain⟨n,x,y,rfl,hl,hx,hy,rfl⟩:=Av hu
   obtain⟨cs,g1,g2⟩:=jvy (b0:=(kR aX lG aO aA)) (b1:=x1) (b2:=x2) (eJ:=x3) hx hy
   have w:=jov hl (Ey.1 hx).1 g1
   simp only[q0z]at w
   refine .inr ⟨of_decide_eq_true xq,(aA.getD []).length,.cells [(.str eQ.name,En),(Iv v9,En)],cs,?_,g2,by simp,by have:=(Ey.1 hx).1;omega⟩
   rw[qn (show pr.bQ 174=I lu from rfl) (by simp)]
   simp only[go_sem,seval,lu,yb h2,C8,yb h6,Zo,yb l8,yb l9,yb po,Da,Db,Dc,Dd,De,Df,Dg,Dh,xq,Kp,Kq,Zq,w,(show ∀n,below 5 (.ms 5 0 n)=En from fun _=>rfl),Gq,cond_false]
 ·cases h
  refine .inl ⟨of_decide_eq_false xq,rfl,?_⟩
  rw[qn (show pr.bQ 174=I lu from rfl) (by simp)]
  simp only[go_sem,seval,lu,yb h2,C8,yb h6,Zo,yb l8,yb l9,yb po,Da,Db,Dc,Dd,De,Df,Dg,Dh,xq]<;>rfl
end Go.Z
end
