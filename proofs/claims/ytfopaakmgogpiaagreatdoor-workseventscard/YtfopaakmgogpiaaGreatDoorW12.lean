/- Chapter 10. -/
import Derived.Test.YtfopaakmgogpiaaGreatDoorV3
import Derived.Test.YtfopaakmgogpiaaGreatDoorAbsL
import Derived.Test.YtfopaakmgogpiaaGreatDoorCA
set_option linter.unusedVariables false
set_option linter.unusedSimpArgs false
set_option maxRecDepth 100000
set_option maxHeartbeats 4000000
noncomputable section
open Bool renaming false→I
open Option renaming some→Ef
namespace Go.Z
open Go Go.Abs Go.W
def f126 (a0:qc)(a1:ql):Option (qc×Int):=
 jw (zo (a1.names.getD []) 0) fun v1=>
 jw (f28 a0 v1) fun v3=>
 cond (decide (v3<0))
  (Ef (a0,10))
  (jw (zo (a0.au.getD []) v3) fun v6=>
  cond (decide (a1.kind=([104,111,108,100]:List UInt8)))
   (cond v6.held
    (Ef (a0,34))
    (cond (decide (a1.kind=([102,114,101,101]:List UInt8)))
     (Ef (a0,20))
     (jw (f206 a0 v3 (⟨v6.name,v6.kind,v6.count,v6.left,true⟩)) fun v11=>
     Ef (v11,0))))
   (cond (decide (a1.kind=([102,114,101,101]:List UInt8)))
    (cond v6.held
     (jw (f206 a0 v3 (⟨v6.name,v6.kind,v6.count,v6.left,I⟩)) fun eZ=>
     Ef (eZ,0))
     (Ef (a0,20)))
    (jw (f206 a0 v3 (⟨v6.name,v6.kind,v6.count,v6.left,I⟩)) fun fT=>
    Ef (fT,0))))
theorem zai {a0:qc}{a1:ql}{r}(h:f126 a0 a1=Ef r):jy pr (X pr) 126 [aR a0,aE a1]=Ef (.aB [aR r.1,Iv r.2],I):=by
 unfold f126 at h
 refine y6 sN ?_
 repeat' first|(replace h:=jx h;obtain⟨d,g,h⟩:=h;with_reducible first|replace g:=Ic g|replace g:=jpa g|skip)|(replace h:=jz h;rcases h with⟨g,h⟩|⟨g,h⟩)|fail
 all_goals (cases h<;>(simp only[go_sem,seval,sN,zn, *];exact⟨_,rfl⟩))
def f125 (a0:qc)(a1:ql):Option (qc×Int):=
 jw (zo (a1.names.getD []) 0) fun v1=>
 jw (f144 a0 v1) fun v3=>
 cond (decide (v3<0))
  (Ef (a0,10))
  (jw (zo (a0.ae.getD []) v3) fun v6=>
  cond (decide (a1.kind=([110,101,101,100]:List UInt8)))
   (jw (zo (a1.values.getD []) 1) fun v9=>
   cond (decide (10000<v9))
    (Ef (a0,3))
    (jw (zo (a1.names.getD []) 1) fun v12=>
    jw (f203 v6.dn (⟨v12,v9⟩)) fun dG=>
    cond dG.2
     (cond (decide (16<((dG.1.getD []).length:Int)))
      (Ef (a0,5))
      (jw (f205 a0 v3 (⟨v6.name,dG.1,v6.dt,v6.aH⟩)) fun fP=>
      Ef (fP,0)))
     (cond (decide (16<((dG.1.getD []).length:Int)))
      (Ef (a0,5))
      (jw (f205 a0 v3 (⟨v6.name,dG.1,v6.dt,v6.aH⟩)) fun v21=>
      Ef (v21,0)))))
   (cond (decide (a1.kind=([116,101,115,116]:List UInt8)))
    (jw (zo (a1.values.getD []) 2) fun v24=>
    jw (zo (a1.values.getD []) 1) fun fC=>
    cond (decide (v24<fC))
     (Ef (a0,11))
     (jw (zo (a1.names.getD []) 1) fun hO=>
     jw (f204 v6.dt (⟨hO,fC,v24⟩)) fun v31=>
     cond v31.2
      (cond (decide (16<((v31.1.getD []).length:Int)))
       (Ef (a0,5))
       (jw (f205 a0 v3 (⟨v6.name,v6.dn,v31.1,v6.aH⟩)) fun vY=>
       Ef (vY,0)))
      (cond (decide (16<((v31.1.getD []).length:Int)))
       (Ef (a0,5))
       (jw (f205 a0 v3 (⟨v6.name,v6.dn,v31.1,v6.aH⟩)) fun si=>
       Ef (si,0)))))
    (cond (decide (((v6.dn.getD []).length:Int)=0))
     (Ef (a0,12))
     (cond (decide (100≤((v6.aH.getD []).length:Int)))
      (Ef (a0,5))
      (jw (bh (Ef []) (v6.aH.getD [])) fun Wn=>
      jw (bh Wn [⟨v6.dn,v6.dt⟩]) fun oJ=>
      jw (f205 a0 v3 (⟨v6.name,v6.dn,v6.dt,oJ⟩)) fun v46=>
      Ef (v46,0))))))
theorem zgt {a0:qc}{a1:ql}{r}(h:f125 a0 a1=Ef r):jy pr (X pr) 125 [aR a0,aE a1]=Ef (.aB [aR r.1,Iv r.2],I):=by
 unfold f125 at h
 refine y6 wz ?_
 repeat' first|(replace h:=jx h;obtain⟨d,g,h⟩:=h;with_reducible first|replace g:=NR g|replace g:=zep g|replace g:=zhw g|replace g:=zdi g|replace g:=UX g|skip)|(replace h:=jz h;rcases h with⟨g,h⟩|⟨g,h⟩)|fail
 all_goals (cases h<;>(simp only[go_sem,seval,wz,zn,lG, *];exact⟨_,rfl⟩))
def xP (a0:qc)(a1:Int)(a2:ql)(v1:qf)(v5:Int)(v8:qk)(eZ:qr)(s0:Bool×Int):Option ((Bool×Int)⊕((Bool×Int))):=
 cond (decide (s0.2<((eZ.ax.getD []).length:Int)))
  (cond s0.1
   (Ef (.inl (true,j6 .i64 (s0.2+1))))
   (jw (zo (eZ.ax.getD []) s0.2) fun fC=>
   Ef (.inl (decide (fC.k=v8.kind),j6 .i64 (s0.2+1)))))
  (Ef (.inr (s0.1,s0.2)))
def IL (a0:qc)(a1:Int)(a2:ql)(v1:qf)(v5:Int)(v8:qk)(eZ:qr)(s0:Bool×Int):qg:=⟨[(1,Iv a1,I),(3,.ah (aR a0),I),(5,.ah (aE a2),I),(6,.ptr 0 0,I),(8,.ptr 1 0,I),(9,Iv v5,I),(10,.ptr 2 0,I),(11,.ah (aD eZ),I),(12,.bool s0.1,I),(13,Iv s0.2,I)],[kZ,.cells [(.str v1.name,I),(.str v1.product,I),(Iv v1.version,I),(sl 2 aS v1.uses,I),(sl 3 zz v1.results,I),(.str v1.partner,I),(.bool I,I),(Iv v1.ai,I)],.cells [(.str v8.name,I),(.str v8.kind,I),(Iv v8.count,I),(Iv v8.left,I),(.bool I,I)]]⟩
def IP (a0:qc)(a1:Int)(a2:ql)(v1:qf)(v5:Int)(v8:qk)(eZ:qr)(d:(Bool×Int)):qo×qg:=(.exit 0,⟨[(1,Iv a1,I),(3,.ah (aR a0),I),(5,.ah (aE a2),I),(6,.ptr 0 0,I),(8,.ptr 1 0,I),(9,Iv v5,I),(10,.ptr 2 0,I),(11,.ah (aD eZ),I),(12,.bool d.1,I),(13,Iv d.2,I),(52,.bool I,I)],[kZ,.cells [(.str v1.name,I),(.str v1.product,I),(Iv v1.version,I),(sl 2 aS v1.uses,I),(sl 3 zz v1.results,I),(.str v1.partner,I),(.bool I,I),(Iv v1.ai,I)],.cells [(.str v8.name,I),(.str v8.kind,I),(Iv v8.count,I),(Iv v8.left,I),(.bool I,I)]]⟩)
theorem jun (a0:qc)(a1:Int)(a2:ql)(v1:qf)(v5:Int)(v8:qk)(eZ:qr)(s0:Bool×Int)(r)(h:xP a0 a1 a2 v1 v5 v8 eZ s0=Ef r):yp pr IQ (IL a0 a1 a2 v1 v5 v8 eZ) (IP a0 a1 a2 v1 v5 v8 eZ) s0 r:=by
 unfold xP at h
 repeat' first|(replace h:=jx h;obtain⟨d,g,h⟩:=h)|(replace h:=jz h;rcases h with⟨g,h⟩|⟨g,h⟩)|fail
 all_goals (cases h<;>(first|(refine zw ?_;simp only[go_sem,seval,IQ,IL,zn,IP, *]<;>rfl)|(refine yj ?_;simp only[go_sem,seval,IQ,IL,zn,IP, *]<;>rfl)))
theorem jp9 (a0:qc)(a1:Int)(a2:ql)(v1:qf)(v5:Int)(v8:qk)(eZ:qr){s0:Bool×Int}{d}(h:bf (xP a0 a1 a2 v1 v5 v8 eZ) s0=Ef d):X pr (.loop IQ) (IL a0 a1 a2 v1 v5 v8 eZ s0)=Ef (IP a0 a1 a2 v1 v5 v8 eZ d):=y7 (jun a0 a1 a2 v1 v5 v8 eZ) (fun d hh=>by cases hh) h
def f207 (a0:qc)(a1:Int)(a2:ql):Option (qc×Int):=
 jw (zo (a0.units.getD []) a1) fun v1=>
 jw (zo (a2.names.getD []) 1) fun v3=>
 jw (f28 a0 v3) fun v5=>
 cond (decide (v5<0))
  (Ef (a0,10))
  (jw (zo (a0.au.getD []) v5) fun v8=>
  cond v1.aq
   (Ef (a0,21))
   (jw (zo (a2.values.getD []) 1) fun v11=>
   cond (decide (v11=0))
    (Ef (a0,3))
    (cond v8.held
     (Ef (a0,34))
     (jw (f78 a0 (⟨v1.name,v1.product,v1.version,v1.uses,v1.results,v1.partner,I,v1.ai⟩)) fun eZ=>
     jw (bf (xP a0 a1 a2 v1 v5 v8 eZ) (I,0)) fun d28=>
     cond d28.1
      (cond (decide (v8.left<v11))
       (Ef (a0,4))
       (jw (f252 v1.uses v8.name v11) fun jM=>
       cond jM.2
        (jw (f206 a0 v5 (⟨v8.name,v8.kind,v8.count,j6 .i64 (v8.left-v11),I⟩)) fun vY=>
        jw (f209 vY a1 (⟨v1.name,v1.product,v1.version,jM.1,v1.results,v1.partner,I,v1.ai⟩)) fun v37=>
        Ef (v37,0))
        (jw (f206 a0 v5 (⟨v8.name,v8.kind,v8.count,j6 .i64 (v8.left-v11),I⟩)) fun WD=>
        jw (f209 WD a1 (⟨v1.name,v1.product,v1.version,jM.1,v1.results,v1.partner,I,v1.ai⟩)) fun wc=>
        Ef (wc,0))))
      (Ef (a0,7))))))
theorem zgu {a0:qc}{a1:Int}{a2:ql}{r}(h:f207 a0 a1 a2=Ef r):jy pr (X pr) 207 [aR a0,Iv a1,aE a2]=Ef (.aB [aR r.1,Iv r.2],I):=by
 unfold f207 at h
 refine y6 sO ?_
 repeat' first|(replace h:=jx h;obtain⟨d,g,h⟩:=h;with_reducible first|replace g:=Ic g|replace g:=N5 g|replace g:=zbc g|replace g:=jpa g|replace g:=Wm g|(replace g:=jp9 a0 a1 a2 _ _ _ _ g;dsimp only[IL,IP,y9]at g h)|skip)|(replace h:=jz h;rcases h with⟨g,h⟩|⟨g,h⟩)|fail
 all_goals (cases h<;>(simp only[go_sem,seval,sO,zn, *];exact⟨_,rfl⟩))
def f208 (a0:qc)(a1:Int)(a2:ql):Option (qc×Int):=
 jw (zo (a0.units.getD []) a1) fun v1=>
 jw (zo (a2.names.getD []) 1) fun v3=>
 jw (f27 a0 v3) fun v5=>
 cond (decide (v5<0))
  (Ef (a0,10))
  (jw (zo (a0.units.getD []) v5) fun v8=>
  cond (decide (v5=a1))
   (Ef (a0,9))
   (cond (decide (v1.product=v8.product))
    (cond (decide (v1.version=v8.version))
     (cond v1.aq
      (Ef (a0,21))
      (cond v8.aq
       (Ef (a0,21))
       (cond (decide (v1.partner=[]))
        (cond (decide (v8.partner=[]))
         (jw (f209 a0 a1 (⟨v1.name,v1.product,v1.version,v1.uses,v1.results,v8.name,I,v1.ai⟩)) fun fT=>
         jw (f209 fT v5 (⟨v8.name,v8.product,v8.version,v8.uses,v8.results,v1.name,I,v8.ai⟩)) fun nw=>
         Ef (nw,0))
         (Ef (a0,35)))
        (Ef (a0,35)))))
     (Ef (a0,30)))
    (Ef (a0,30))))
theorem zbx {a0:qc}{a1:Int}{a2:ql}{r}(h:f208 a0 a1 a2=Ef r):jy pr (X pr) 208 [aR a0,Iv a1,aE a2]=Ef (.aB [aR r.1,Iv r.2],I):=by
 unfold f208 at h
 refine y6 sP ?_
 repeat' first|(replace h:=jx h;obtain⟨d,g,h⟩:=h;with_reducible first|replace g:=Wp g|replace g:=Wm g|skip)|(replace h:=jz h;rcases h with⟨g,h⟩|⟨g,h⟩)|fail
 all_goals (cases h<;>(simp only[go_sem,seval,sP,zn, *];exact⟨_,rfl⟩))
def xQ (a0:qc)(a1:ql)(v3:Int)(v6:qf)(dv:qr)(s0:Bool×Int):Option ((Bool×Int)⊕((Bool×Int))):=
 cond (decide (s0.2<((dv.aw.getD []).length:Int)))
  (cond s0.1
   (Ef (.inl (true,j6 .i64 (s0.2+1))))
   (jw (zo (dv.aw.getD []) s0.2) fun v31=>
   jw (zo (a1.names.getD []) 1) fun wj=>
   Ef (.inl (decide (v31.k=wj),j6 .i64 (s0.2+1)))))
  (Ef (.inr (s0.1,s0.2)))
def IU (a0:qc)(a1:ql)(v3:Int)(v6:qf)(dv:qr)(s0:Bool×Int):qg:=⟨[(2,.ah (aR a0),I),(3,.ah (aE a1),I),(4,.ptr 0 0,I),(6,Iv v3,I),(7,.ptr 1 0,I),(8,.ah (aD dv),I),(9,.bool s0.1,I),(10,Iv s0.2,I)],[kZ,.cells [(.str v6.name,I),(.str v6.product,I),(Iv v6.version,I),(sl 2 aS v6.uses,I),(sl 3 zz v6.results,I),(.str v6.partner,I),(.bool I,I),(Iv v6.ai,I)]]⟩
def IV (a0:qc)(a1:ql)(v3:Int)(v6:qf)(dv:qr)(d:(Bool×Int)):qo×qg:=(.exit 1,⟨[(2,.ah (aR a0),I),(3,.ah (aE a1),I),(4,.ptr 0 0,I),(6,Iv v3,I),(7,.ptr 1 0,I),(8,.ah (aD dv),I),(9,.bool d.1,I),(10,Iv d.2,I),(64,.bool I,I)],[kZ,.cells [(.str v6.name,I),(.str v6.product,I),(Iv v6.version,I),(sl 2 aS v6.uses,I),(sl 3 zz v6.results,I),(.str v6.partner,I),(.bool I,I),(Iv v6.ai,I)]]⟩)
theorem jtp (a0:qc)(a1:ql)(v3:Int)(v6:qf)(dv:qr)(s0:Bool×Int)(r)(h:xQ a0 a1 v3 v6 dv s0=Ef r):yp pr IW (IU a0 a1 v3 v6 dv) (IV a0 a1 v3 v6 dv) s0 r:=by
 unfold xQ at h
 repeat' first|(replace h:=jx h;obtain⟨d,g,h⟩:=h)|(replace h:=jz h;rcases h with⟨g,h⟩|⟨g,h⟩)|fail
 all_goals (cases h<;>(first|(refine zw ?_;simp only[go_sem,seval,IW,IU,zn,IV, *]<;>rfl)|(refine yj ?_;simp only[go_sem,seval,IW,IU,zn,IV, *]<;>rfl)))
theorem jry (a0:qc)(a1:ql)(v3:Int)(v6:qf)(dv:qr){s0:Bool×Int}{d}(h:bf (xQ a0 a1 v3 v6 dv) s0=Ef d):X pr (.loop IW) (IU a0 a1 v3 v6 dv s0)=Ef (IV a0 a1 v3 v6 dv d):=y7 (jtp a0 a1 v3 v6 dv) (fun d hh=>by cases hh) h
def f127 (a0:qc)(a1:ql):Option (qc×Int):=
 jw (zo (a1.names.getD []) 0) fun v1=>
 jw (f27 a0 v1) fun v3=>
 cond (decide (v3<0))
  (Ef (a0,10))
  (jw (zo (a0.units.getD []) v3) fun v6=>
  cond (decide (a1.kind=([117,115,101]:List UInt8)))
   (jw (f207 a0 v3 a1) fun v9=>
   Ef (v9.1,v9.2))
   (cond (decide (a1.kind=([112,97,105,114]:List UInt8)))
    (jw (f208 a0 v3 a1) fun v12=>
    Ef (v12.1,v12.2))
    (cond (decide (a1.kind=([109,101,97,115,117,114,101]:List UInt8)))
     (cond v6.aq
      (Ef (a0,21))
      (jw (f78 a0 (⟨v6.name,v6.product,v6.version,v6.uses,v6.results,v6.partner,I,v6.ai⟩)) fun dv=>
      jw (bf (xQ a0 a1 v3 v6 dv) (I,0)) fun d35=>
      cond d35.1
       (cond (decide (64≤((v6.results.getD []).length:Int)))
        (Ef (a0,5))
        (jw (bh (Ef []) (v6.results.getD [])) fun WD=>
        jw (zo (a1.names.getD []) 1) fun wc=>
        jw (zo (a1.values.getD []) 1) fun py=>
        jw (bh WD [⟨wc,v6.version,py⟩]) fun yn=>
        jw (f209 a0 v3 (⟨v6.name,v6.product,v6.version,v6.uses,yn,v6.partner,I,v6.ai⟩)) fun v47=>
        Ef (v47,0)))
       (Ef (a0,7))))
     (cond (decide (a1.kind=([117,112,100,97,116,101]:List UInt8)))
      (cond v6.aq
       (Ef (a0,21))
       (jw (f80 a0 (⟨v6.name,v6.product,v6.version,v6.uses,v6.results,v6.partner,I,v6.ai⟩)) fun v51=>
       cond (decide (v6.version=v51))
        (Ef (a0,32))
        (jw (f209 a0 v3 (⟨v6.name,v6.product,v51,v6.uses,v6.results,v6.partner,I,v6.ai⟩)) fun NZ=>
        Ef (NZ,0))))
      (cond (decide (a1.kind=([115,104,105,112]:List UInt8)))
       (jw (f31 a0 v6) fun N0=>
       cond (decide (N0=0))
        (jw (f209 a0 v3 (⟨v6.name,v6.product,v6.version,v6.uses,v6.results,v6.partner,true,v6.ai⟩)) fun v60=>
        Ef (v60,0))
        (Ef (a0,N0)))
       (cond v6.aq
        (jw (f209 a0 v3 (⟨v6.name,v6.product,v6.version,v6.uses,v6.results,v6.partner,true,j6 .i64 (v6.ai+1)⟩)) fun v63=>
        Ef (v63,0))
        (Ef (a0,20))))))))
theorem zah {a0:qc}{a1:ql}{r}(h:f127 a0 a1=Ef r):jy pr (X pr) 127 [aR a0,aE a1]=Ef (.aB [aR r.1,Iv r.2],I):=by
 unfold f127 at h
 refine y6 wA ?_
 repeat' first|(replace h:=jx h;obtain⟨d,g,h⟩:=h;with_reducible first|replace g:=Wp g|replace g:=zgu g|replace g:=zbx g|replace g:=N5 g|replace g:=Wm g|replace g:=W80 g|replace g:=W31 g|replace g:=xt g|(replace g:=jry a0 a1 _ _ _ g;dsimp only[IU,IV,y9]at g h)|skip)|(replace h:=jz h;rcases h with⟨g,h⟩|⟨g,h⟩)|fail
 all_goals (cases h<;>(simp only[go_sem,seval,wA,zn,lG, *];exact⟨_,rfl⟩))
def f69 (a0:qc)(a1:ql):Option (qc×Int):=
 jw (zo (a1.values.getD []) 0) fun v1=>
 cond (decide (v1<a0.day))
  (Ef (a0,20))
  (cond (decide (a1.kind=([108,111,116]:List UInt8)))
   (jw (f124 a0 a1) fun v5=>
   Ef (⟨v1,v5.1.au,v5.1.ae,v5.1.units⟩,v5.2))
   (cond (decide (a1.kind=([112,114,111,100,117,99,116]:List UInt8)))
    (jw (f124 a0 a1) fun v8=>
    Ef (⟨v1,v8.1.au,v8.1.ae,v8.1.units⟩,v8.2))
    (cond (decide (a1.kind=([98,117,105,108,100]:List UInt8)))
     (jw (f124 a0 a1) fun v11=>
     Ef (⟨v1,v11.1.au,v11.1.ae,v11.1.units⟩,v11.2))
     (cond (decide (a1.kind=([110,101,101,100]:List UInt8)))
      (jw (f125 a0 a1) fun dG=>
      Ef (⟨v1,dG.1.au,dG.1.ae,dG.1.units⟩,dG.2))
      (cond (decide (a1.kind=([116,101,115,116]:List UInt8)))
       (jw (f125 a0 a1) fun fT=>
       Ef (⟨v1,fT.1.au,fT.1.ae,fT.1.units⟩,fT.2))
       (cond (decide (a1.kind=([105,115,115,117,101]:List UInt8)))
        (jw (f125 a0 a1) fun v20=>
        Ef (⟨v1,v20.1.au,v20.1.ae,v20.1.units⟩,v20.2))
        (cond (decide (a1.kind=([104,111,108,100]:List UInt8)))
         (jw (f126 a0 a1) fun iY=>
         Ef (⟨v1,iY.1.au,iY.1.ae,iY.1.units⟩,iY.2))
         (cond (decide (a1.kind=([102,114,101,101]:List UInt8)))
          (jw (f126 a0 a1) fun fC=>
          Ef (⟨v1,fC.1.au,fC.1.ae,fC.1.units⟩,fC.2))
          (jw (f127 a0 a1) fun v28=>
          Ef (⟨v1,v28.1.au,v28.1.ae,v28.1.units⟩,v28.2))))))))))
theorem W69 {a0:qc}{a1:ql}{r}(h:f69 a0 a1=Ef r):jy pr (X pr) 69 [aR a0,aE a1]=Ef (.aB [aR r.1,Iv r.2],I):=by
 unfold f69 at h
 refine y6 N6 ?_
 repeat' first|(replace h:=jx h;obtain⟨d,g,h⟩:=h;with_reducible first|replace g:=zay g|replace g:=zgt g|replace g:=zai g|replace g:=zah g|skip)|(replace h:=jz h;rcases h with⟨g,h⟩|⟨g,h⟩)|fail
 all_goals (cases h<;>(simp only[go_sem,seval,N6,zn, *];exact⟨_,rfl⟩))
end Go.Z
end
