/- Chapter 10. -/
import Derived.Test.YtimdocpnkimlfaaGreatDoorV3
set_option linter.unusedVariables false
set_option linter.unusedSimpArgs false
set_option maxRecDepth 100000
set_option maxHeartbeats 4000000
noncomputable section
open Bool renaming false→I,true→Gn
open Option renaming some→En,none→Ey
namespace Go.Z
open Go Go.Abs Go.W
def Fx (a0:aj)(a1:GEv):Option (aj×Int):=
 qa (qr (a1.names.getD []) 0) fun v1=>
 qa (wW a0 v1) fun v3=>
 cond (decide (v3<0))
  (En (a0,10))
  (qa (qr (a0.lots.getD []) v3) fun v6=>
  cond (decide (a1.kind=([104,111,108,100]:List UInt8)))
   (cond v6.held
    (En (a0,34))
    (cond (decide (a1.kind=([102,114,101,101]:List UInt8)))
     (En (a0,20))
     (qa (zZ a0 v3 (⟨v6.name,v6.kind,v6.count,v6.left,Gn⟩)) fun v11=>
     En (v11,0))))
   (cond (decide (a1.kind=([102,114,101,101]:List UInt8)))
    (cond v6.held
     (qa (zZ a0 v3 (⟨v6.name,v6.kind,v6.count,v6.left,I⟩)) fun fP=>
     En (fP,0))
     (En (a0,20)))
    (qa (zZ a0 v3 (⟨v6.name,v6.kind,v6.count,v6.left,I⟩)) fun jJ=>
    En (jJ,0))))
theorem zg1 {a0 a1 r}(h:Fx a0 a1=En r):qc pr (X pr) 201 [aR a0,aE a1]=En (.aB [aR r.1,Iv r.2],I):=by
 unfold Fx at h
 refine zh tV ?_
 repeat' first|(replace h:=qb h;obtain⟨d,g,h⟩:=h;with_reducible first|replace g:=Kf g|replace g:=jyo g|skip)|(replace h:=qd h;rcases h with⟨g,h⟩|⟨g,h⟩)
 all_goals (cases h<;>(simp only[go_sem,seval,tV,jg, *];exact⟨_,rfl⟩))
def Ab (a0:aj)(a1:GEv):Option (aj×Int):=
 qa (qr (a1.names.getD []) 0) fun v1=>
 qa (wX a0 v1) fun v3=>
 cond (decide (v3<0))
  (En (a0,10))
  (qa (qr (a0.ae.getD []) v3) fun v6=>
  cond (decide (a1.kind=([110,101,101,100]:List UInt8)))
   (qa (qr (a1.values.getD []) 1) fun v9=>
   cond (decide (10000<v9))
    (En (a0,3))
    (qa (qr (a1.names.getD []) 1) fun v12=>
    qa (I9 v6.dn (⟨v12,v9⟩)) fun fq=>
    cond fq.2
     (cond (decide (16<((fq.1.getD []).length:Int)))
      (En (a0,5))
      (qa (Aa a0 v3 (⟨v6.name,fq.1,v6.dt,v6.aM⟩)) fun jK=>
      En (jK,0)))
     (cond (decide (16<((fq.1.getD []).length:Int)))
      (En (a0,5))
      (qa (Aa a0 v3 (⟨v6.name,fq.1,v6.dt,v6.aM⟩)) fun v21=>
      En (v21,0)))))
   (cond (decide (a1.kind=([116,101,115,116]:List UInt8)))
    (qa (qr (a1.values.getD []) 2) fun v24=>
    qa (qr (a1.values.getD []) 1) fun v26=>
    cond (decide (v24<v26))
     (En (a0,11))
     (qa (qr (a1.names.getD []) 1) fun ik=>
     qa (f260 v6.dt (⟨ik,v26,v24⟩)) fun v31=>
     cond v31.2
      (cond (decide (16<((v31.1.getD []).length:Int)))
       (En (a0,5))
       (qa (Aa a0 v3 (⟨v6.name,v6.dn,v31.1,v6.aM⟩)) fun xE=>
       En (xE,0)))
      (cond (decide (16<((v31.1.getD []).length:Int)))
       (En (a0,5))
       (qa (Aa a0 v3 (⟨v6.name,v6.dn,v31.1,v6.aM⟩)) fun CX=>
       En (CX,0)))))
    (cond (decide (((v6.dn.getD []).length:Int)=0))
     (En (a0,12))
     (cond (decide (100≤((v6.aM.getD []).length:Int)))
      (En (a0,5))
      (qa (bH (En []) (v6.aM.getD [])) fun Ze=>
      qa (bH Ze [⟨v6.dn,v6.dt⟩]) fun CZ=>
      qa (Aa a0 v3 (⟨v6.name,v6.dn,v6.dt,CZ⟩)) fun v46=>
      En (v46,0))))))
theorem zj7 {a0 a1 r}(h:Ab a0 a1=En r):qc pr (X pr) 200 [aR a0,aE a1]=En (.aB [aR r.1,Iv r.2],I):=by
 unfold Ab at h
 refine zh xZ ?_
 repeat' first|(replace h:=qb h;obtain⟨d,g,h⟩:=h;with_reducible first|replace g:=O5 g|replace g:=zi4 g|replace g:=zhq g|replace g:=zkp g|replace g:=q9g g|skip)|(replace h:=qd h;rcases h with⟨g,h⟩|⟨g,h⟩)
 all_goals (cases h<;>(simp only[go_sem,seval,xZ,jg,mP, *];exact⟨_,rfl⟩))
def Ad (a0:aj)(a1:Int)(a2:GEv)(v1:ay)(v5:Int)(v8:jd)(fP:bL)(s0:Bool×Int):Option ((Bool×Int)⊕((Bool×Int))):=
 cond (decide (s0.2<((fP.aK.getD []).length:Int)))
  (cond s0.1
   (En (.inl (Gn,qe .i64 (s0.2+1))))
   (qa (qr (fP.aK.getD []) s0.2) fun v26=>
   En (.inl (decide (v26.k=v8.kind),qe .i64 (s0.2+1)))))
  (En (.inr (s0.1,s0.2)))
def P8 (a0:aj)(a1:Int)(a2:GEv)(v1:ay)(v5:Int)(v8:jd)(fP:bL)(s0:Bool×Int):bf:=⟨[(1,Iv a1,I),(3,.ah (aR a0),I),(5,.ah (aE a2),I),(6,.ptr 0 0,I),(8,.ptr 1 0,I),(9,Iv v5,I),(10,.ptr 2 0,I),(11,.ah (aD fP),I),(12,.bool s0.1,I),(13,Iv s0.2,I)],[kZ,.cells [(.str v1.name,I),(.str v1.product,I),(Iv v1.version,I),(sl 2 bn v1.uses,I),(sl 3 ja v1.results,I),(.str v1.partner,I),(.bool I,I),(Iv v1.ai,I)],.cells [(.str v8.name,I),(.str v8.kind,I),(Iv v8.count,I),(Iv v8.left,I),(.bool I,I)]]⟩
def P9 (a0:aj)(a1:Int)(a2:GEv)(v1:ay)(v5:Int)(v8:jd)(fP:bL)(d:(Bool×Int)):jf×bf:=(.exit 0,⟨[(1,Iv a1,I),(3,.ah (aR a0),I),(5,.ah (aE a2),I),(6,.ptr 0 0,I),(8,.ptr 1 0,I),(9,Iv v5,I),(10,.ptr 2 0,I),(11,.ah (aD fP),I),(12,.bool d.1,I),(13,Iv d.2,I),(52,.bool I,I)],[kZ,.cells [(.str v1.name,I),(.str v1.product,I),(Iv v1.version,I),(sl 2 bn v1.uses,I),(sl 3 ja v1.results,I),(.str v1.partner,I),(.bool I,I),(Iv v1.ai,I)],.cells [(.str v8.name,I),(.str v8.kind,I),(Iv v8.count,I),(Iv v8.left,I),(.bool I,I)]]⟩)
theorem jxj (a0:aj)(a1:Int)(a2:GEv)(v1:ay)(v5:Int)(v8:jd)(fP:bL)(s0:Bool×Int)(r)(h:Ad a0 a1 a2 v1 v5 v8 fP s0=En r):jz pr Qa (P8 a0 a1 a2 v1 v5 v8 fP) (P9 a0 a1 a2 v1 v5 v8 fP) s0 r:=by
 unfold Ad at h
 repeat' first|(replace h:=qb h;obtain⟨d,g,h⟩:=h)|(replace h:=qd h;rcases h with⟨g,h⟩|⟨g,h⟩)
 all_goals (cases h<;>((first|refine qz ?_|refine jp ?_);simp only[go_sem,seval,Qa,P8,jg,P9, *]<;>rfl))
theorem jzl (a0:aj)(a1:Int)(a2:GEv)(v1:ay)(v5:Int)(v8:jd)(fP:bL){s0 d}(h:bm (Ad a0 a1 a2 v1 v5 v8 fP) s0=En d):X pr (.loop Qa) (P8 a0 a1 a2 v1 v5 v8 fP s0)=En (P9 a0 a1 a2 v1 v5 v8 fP d):=zj (jxj a0 a1 a2 v1 v5 v8 fP) h
def f263 (a0:aj)(a1:Int)(a2:GEv):Option (aj×Int):=
 qa (qr (a0.units.getD []) a1) fun v1=>
 qa (qr (a2.names.getD []) 1) fun v3=>
 qa (wW a0 v3) fun v5=>
 cond (decide (v5<0))
  (En (a0,10))
  (qa (qr (a0.lots.getD []) v5) fun v8=>
  cond v1.shipped
   (En (a0,21))
   (qa (qr (a2.values.getD []) 1) fun v11=>
   cond (decide (v11=0))
    (En (a0,3))
    (cond v8.held
     (En (a0,34))
     (qa (pZ a0 (⟨v1.name,v1.product,v1.version,v1.uses,v1.results,v1.partner,I,v1.ai⟩)) fun fP=>
     qa (bm (Ad a0 a1 a2 v1 v5 v8 fP) (I,0)) fun d28=>
     cond d28.1
      (cond (decide (v8.left<v11))
       (En (a0,4))
       (qa (Ja v1.uses v8.name v11) fun lG=>
       cond lG.2
        (qa (zZ a0 v5 (⟨v8.name,v8.kind,v8.count,qe .i64 (v8.left-v11),I⟩)) fun xE=>
        qa (f267 xE a1 (⟨v1.name,v1.product,v1.version,lG.1,v1.results,v1.partner,I,v1.ai⟩)) fun v37=>
        En (v37,0))
        (qa (zZ a0 v5 (⟨v8.name,v8.kind,v8.count,qe .i64 (v8.left-v11),I⟩)) fun Zs=>
        qa (f267 Zs a1 (⟨v1.name,v1.product,v1.version,lG.1,v1.results,v1.partner,I,v1.ai⟩)) fun CY=>
        En (CY,0))))
      (En (a0,7))))))
theorem zlz {a0 a1 a2 r}(h:f263 a0 a1 a2=En r):qc pr (X pr) 263 [aR a0,Iv a1,aE a2]=En (.aB [aR r.1,Iv r.2],I):=by
 unfold f263 at h
 refine zh tW ?_
 repeat' first|(replace h:=qb h;obtain⟨d,g,h⟩:=h;with_reducible first|replace g:=Kf g|replace g:=PP g|replace g:=zfg g|replace g:=jyo g|replace g:=Zc g|(replace g:=jzl a0 a1 a2 _ _ _ _ g;dsimp only[P8,P9,zk]at g h)|skip)|(replace h:=qd h;rcases h with⟨g,h⟩|⟨g,h⟩)
 all_goals (cases h<;>(simp only[go_sem,seval,tW,jg, *];exact⟨_,rfl⟩))
def f264 (a0:aj)(a1:Int)(a2:GEv):Option (aj×Int):=
 qa (qr (a0.units.getD []) a1) fun v1=>
 qa (qr (a2.names.getD []) 1) fun v3=>
 qa (B7 a0 v3) fun v5=>
 cond (decide (v5<0))
  (En (a0,10))
  (qa (qr (a0.units.getD []) v5) fun v8=>
  cond (decide (v5=a1))
   (En (a0,9))
   (cond (decide (v1.product=v8.product))
    (cond (decide (v1.version=v8.version))
     (cond v1.shipped
      (En (a0,21))
      (cond v8.shipped
       (En (a0,21))
       (cond (decide (v1.partner=[]))
        (cond (decide (v8.partner=[]))
         (qa (f267 a0 a1 (⟨v1.name,v1.product,v1.version,v1.uses,v1.results,v8.name,I,v1.ai⟩)) fun jJ=>
         qa (f267 jJ v5 (⟨v8.name,v8.product,v8.version,v8.uses,v8.results,v1.name,I,v8.ai⟩)) fun oc=>
         En (oc,0))
         (En (a0,35)))
        (En (a0,35)))))
     (En (a0,30)))
    (En (a0,30))))
theorem ziq {a0 a1 a2 r}(h:f264 a0 a1 a2=En r):qc pr (X pr) 264 [aR a0,Iv a1,aE a2]=En (.aB [aR r.1,Iv r.2],I):=by
 unfold f264 at h
 refine zh tX ?_
 repeat' first|(replace h:=qb h;obtain⟨d,g,h⟩:=h;with_reducible first|replace g:=Zg g|replace g:=Zc g|skip)|(replace h:=qd h;rcases h with⟨g,h⟩|⟨g,h⟩)
 all_goals (cases h<;>(simp only[go_sem,seval,tX,jg, *];exact⟨_,rfl⟩))
def Ae (a0:aj)(a1:GEv)(v3:Int)(v6:ay)(eh:bL)(s0:Bool×Int):Option ((Bool×Int)⊕((Bool×Int))):=
 cond (decide (s0.2<((eh.az.getD []).length:Int)))
  (cond s0.1
   (En (.inl (Gn,qe .i64 (s0.2+1))))
   (qa (qr (eh.az.getD []) s0.2) fun v31=>
   qa (qr (a1.names.getD []) 1) fun xI=>
   En (.inl (decide (v31.k=xI),qe .i64 (s0.2+1)))))
  (En (.inr (s0.1,s0.2)))
def Qb (a0:aj)(a1:GEv)(v3:Int)(v6:ay)(eh:bL)(s0:Bool×Int):bf:=⟨[(2,.ah (aR a0),I),(3,.ah (aE a1),I),(4,.ptr 0 0,I),(6,Iv v3,I),(7,.ptr 1 0,I),(8,.ah (aD eh),I),(9,.bool s0.1,I),(10,Iv s0.2,I)],[kZ,.cells [(.str v6.name,I),(.str v6.product,I),(Iv v6.version,I),(sl 2 bn v6.uses,I),(sl 3 ja v6.results,I),(.str v6.partner,I),(.bool I,I),(Iv v6.ai,I)]]⟩
def Qc (a0:aj)(a1:GEv)(v3:Int)(v6:ay)(eh:bL)(d:(Bool×Int)):jf×bf:=(.exit 1,⟨[(2,.ah (aR a0),I),(3,.ah (aE a1),I),(4,.ptr 0 0,I),(6,Iv v3,I),(7,.ptr 1 0,I),(8,.ah (aD eh),I),(9,.bool d.1,I),(10,Iv d.2,I),(64,.bool I,I)],[kZ,.cells [(.str v6.name,I),(.str v6.product,I),(Iv v6.version,I),(sl 2 bn v6.uses,I),(sl 3 ja v6.results,I),(.str v6.partner,I),(.bool I,I),(Iv v6.ai,I)]]⟩)
theorem jv7 (a0:aj)(a1:GEv)(v3:Int)(v6:ay)(eh:bL)(s0:Bool×Int)(r)(h:Ae a0 a1 v3 v6 eh s0=En r):jz pr Qd (Qb a0 a1 v3 v6 eh) (Qc a0 a1 v3 v6 eh) s0 r:=by
 unfold Ae at h
 repeat' first|(replace h:=qb h;obtain⟨d,g,h⟩:=h)|(replace h:=qd h;rcases h with⟨g,h⟩|⟨g,h⟩)
 all_goals (cases h<;>((first|refine qz ?_|refine jp ?_);simp only[go_sem,seval,Qd,Qb,jg,Qc, *]<;>rfl))
theorem juc (a0:aj)(a1:GEv)(v3:Int)(v6:ay)(eh:bL){s0 d}(h:bm (Ae a0 a1 v3 v6 eh) s0=En d):X pr (.loop Qd) (Qb a0 a1 v3 v6 eh s0)=En (Qc a0 a1 v3 v6 eh d):=zj (jv7 a0 a1 v3 v6 eh) h
def Fz (a0:aj)(a1:GEv):Option (aj×Int):=
 qa (qr (a1.names.getD []) 0) fun v1=>
 qa (B7 a0 v1) fun v3=>
 cond (decide (v3<0))
  (En (a0,10))
  (qa (qr (a0.units.getD []) v3) fun v6=>
  cond (decide (a1.kind=([117,115,101]:List UInt8)))
   (qa (f263 a0 v3 a1) fun v9=>
   En (v9.1,v9.2))
   (cond (decide (a1.kind=([112,97,105,114]:List UInt8)))
    (qa (f264 a0 v3 a1) fun v12=>
    En (v12.1,v12.2))
    (cond (decide (a1.kind=([109,101,97,115,117,114,101]:List UInt8)))
     (cond v6.shipped
      (En (a0,21))
      (qa (pZ a0 (⟨v6.name,v6.product,v6.version,v6.uses,v6.results,v6.partner,I,v6.ai⟩)) fun eh=>
      qa (bm (Ae a0 a1 v3 v6 eh) (I,0)) fun d35=>
      cond d35.1
       (cond (decide (64≤((v6.results.getD []).length:Int)))
        (En (a0,5))
        (qa (bH (En []) (v6.results.getD [])) fun Zs=>
        qa (qr (a1.names.getD []) 1) fun CY=>
        qa (qr (a1.values.getD []) 1) fun Ko=>
        qa (bH Zs [⟨CY,v6.version,Ko⟩]) fun Aw=>
        qa (f267 a0 v3 (⟨v6.name,v6.product,v6.version,v6.uses,Aw,v6.partner,I,v6.ai⟩)) fun v47=>
        En (v47,0)))
       (En (a0,7))))
     (cond (decide (a1.kind=([117,112,100,97,116,101]:List UInt8)))
      (cond v6.shipped
       (En (a0,21))
       (qa (Fe a0 (⟨v6.name,v6.product,v6.version,v6.uses,v6.results,v6.partner,I,v6.ai⟩)) fun v51=>
       cond (decide (v6.version=v51))
        (En (a0,32))
        (qa (f267 a0 v3 (⟨v6.name,v6.product,v51,v6.uses,v6.results,v6.partner,I,v6.ai⟩)) fun P3=>
        En (P3,0))))
      (cond (decide (a1.kind=([115,104,105,112]:List UInt8)))
       (qa (f266 a0 v6) fun P4=>
       cond (decide (P4=0))
        (qa (f267 a0 v3 (⟨v6.name,v6.product,v6.version,v6.uses,v6.results,v6.partner,Gn,v6.ai⟩)) fun v60=>
        En (v60,0))
        (En (a0,P4)))
       (cond v6.shipped
        (qa (f267 a0 v3 (⟨v6.name,v6.product,v6.version,v6.uses,v6.results,v6.partner,Gn,qe .i64 (v6.ai+1)⟩)) fun v63=>
        En (v63,0))
        (En (a0,20))))))))
theorem zfn {a0 a1 r}(h:Fz a0 a1=En r):qc pr (X pr) 202 [aR a0,aE a1]=En (.aB [aR r.1,Iv r.2],I):=by
 unfold Fz at h
 refine zh x5 ?_
 repeat' first|(replace h:=qb h;obtain⟨d,g,h⟩:=h;with_reducible first|replace g:=Zg g|replace g:=zlz g|replace g:=ziq g|replace g:=PP g|replace g:=Zc g|replace g:=jwy g|replace g:=zd7 g|replace g:=E6 g|(replace g:=juc a0 a1 _ _ _ g;dsimp only[Qb,Qc,zk]at g h)|skip)|(replace h:=qd h;rcases h with⟨g,h⟩|⟨g,h⟩)
 all_goals (cases h<;>(simp only[go_sem,seval,x5,jg,mP, *];exact⟨_,rfl⟩))
def Jt (a0:aj)(a1:GEv):Option (aj×Int):=
 qa (qr (a1.values.getD []) 0) fun v1=>
 cond (decide (v1<a0.day))
  (En (a0,20))
  (cond (decide (a1.kind=([108,111,116]:List UInt8)))
   (qa (sg a0 a1) fun v5=>
   En (⟨v1,v5.1.lots,v5.1.ae,v5.1.units⟩,v5.2))
   (cond (decide (a1.kind=([112,114,111,100,117,99,116]:List UInt8)))
    (qa (sg a0 a1) fun v8=>
    En (⟨v1,v8.1.lots,v8.1.ae,v8.1.units⟩,v8.2))
    (cond (decide (a1.kind=([98,117,105,108,100]:List UInt8)))
     (qa (sg a0 a1) fun v11=>
     En (⟨v1,v11.1.lots,v11.1.ae,v11.1.units⟩,v11.2))
     (cond (decide (a1.kind=([110,101,101,100]:List UInt8)))
      (qa (Ab a0 a1) fun fq=>
      En (⟨v1,fq.1.lots,fq.1.ae,fq.1.units⟩,fq.2))
      (cond (decide (a1.kind=([116,101,115,116]:List UInt8)))
       (qa (Ab a0 a1) fun jJ=>
       En (⟨v1,jJ.1.lots,jJ.1.ae,jJ.1.units⟩,jJ.2))
       (cond (decide (a1.kind=([105,115,115,117,101]:List UInt8)))
        (qa (Ab a0 a1) fun v20=>
        En (⟨v1,v20.1.lots,v20.1.ae,v20.1.units⟩,v20.2))
        (cond (decide (a1.kind=([104,111,108,100]:List UInt8)))
         (qa (Fx a0 a1) fun v23=>
         En (⟨v1,v23.1.lots,v23.1.ae,v23.1.units⟩,v23.2))
         (cond (decide (a1.kind=([102,114,101,101]:List UInt8)))
          (qa (Fx a0 a1) fun v26=>
          En (⟨v1,v26.1.lots,v26.1.ae,v26.1.units⟩,v26.2))
          (qa (Fz a0 a1) fun v28=>
          En (⟨v1,v28.1.lots,v28.1.ae,v28.1.units⟩,v28.2))))))))))
theorem zko {a0 a1 r}(h:Jt a0 a1=En r):qc pr (X pr) 145 [aR a0,aE a1]=En (.aB [aR r.1,Iv r.2],I):=by
 unfold Jt at h
 refine zh x6 ?_
 repeat' first|(replace h:=qb h;obtain⟨d,g,h⟩:=h;with_reducible first|replace g:=zj4 g|replace g:=zj7 g|replace g:=zg1 g|replace g:=zfn g|skip)|(replace h:=qd h;rcases h with⟨g,h⟩|⟨g,h⟩)
 all_goals (cases h<;>(simp only[go_sem,seval,x6,jg, *];exact⟨_,rfl⟩))
end Go.Z
namespace Go.Z
open Go Go.Abs Go.W
def f47 (a0:GEv):Option Int:=
 qa (f60 a0.number 1 1000) fun v1=>
 qa (f48 (!(E7 a0.kind)) 13) fun v3=>
 qa (f48 (!(decide (((a0.names.getD []).length:Int)=((zc a0.kind).length:Int))&&decide (((a0.values.getD []).length:Int)=(nP a0.kind)))) 2) fun v5=>
 qa (f46 (En [v1,v3,v5])) fun v7=>
 cond (decide (v7=0))
  (qa (Jw a0.names) fun v10=>
  qa (Jy a0.values) fun v12=>
  qa (f46 v10.1) fun fq=>
  qa (f46 v12.1) fun eh=>
  qa (f48 (!decide (a0.text=[])) 1) fun jK=>
  qa (f46 (En [fq,eh,jK])) fun v20=>
  En v20)
  (En v7)
theorem W47 {a0 r}(h:f47 a0=En r):qc pr (X pr) 47 [aE a0]=En (Iv r,I):=by
 unfold f47 at h
 refine zh Kr ?_
 repeat' first|(replace h:=qb h;obtain⟨d,g,h⟩:=h; (with_reducible first|replace g:=O9 g|replace g:=gg g|replace g:=mf g|replace g:=zik g|replace g:=zit g|skip);try dsimp only[zk,lD,List.map,jm,j9,jc,qv,aY,zo,vev,bn,ja,yq,aE,aR,aU,aL,aP,aD]at g)|(replace h:=qd h;rcases h with⟨g,h⟩|⟨g,h⟩)
 all_goals (cases h<;>(simp only[go_sem,seval,Kr,jp6, *];exact⟨_,rfl⟩))
end Go.Z
namespace Go.Z
open Go Go.Abs Go.W
def pq (a0:Option (List GEv))(s0:(Option (List GEv))×(Option (List aj))×Int×Bool×Bool):Option (((Option (List GEv))×(Option (List aj))×Int×Bool×Bool)⊕((Int×Int×Int×(Option (List jd))×(Option (List aS))×(Option (List ay)))⊕((Option (List GEv))×Bool×(Option (List aj))×Bool×Int))):=
 cond (decide (s0.2.2.1<((a0.getD []).length:Int)))
  (qa (qr (a0.getD []) s0.2.2.1) fun v75=>
  qa (f33 v75) fun v77=>
  cond (decide (v77=0))
   (cond (decide (v75.number=(qe .i64 (s0.2.2.1+1))))
    (cond (decide (v75.kind=([117,110,100,111]:List UInt8)))
     (cond (decide (((s0.1.getD []).length:Int)=0))
      (En (.inr (.inl (qe .i64 (s0.2.2.1+1),12,0,Ey,Ey,Ey))))
      (qa (qr (s0.1.getD []) (qe .i64 (((s0.1.getD []).length:Int)-1))) fun Zi=>
      cond (decide (Zi.kind=([115,104,105,112]:List UInt8)))
       (En (.inr (.inl (qe .i64 (s0.2.2.1+1),19,0,Ey,Ey,Ey))))
       (qa (vQ s0.1 Ey (En (qe .i64 (((s0.1.getD []).length:Int)-1)))) fun v86=>
       qa (vQ s0.2.1 Ey (En ((s0.1.getD []).length:Int))) fun Zj=>
       En (.inl (v86,Zj,qe .i64 (s0.2.2.1+1),I,I)))))
     (qa (qr (s0.2.1.getD []) ((s0.1.getD []).length:Int)) fun P5=>
     qa (Jt P5 v75) fun Di=>
     cond (decide (Di.2=0))
      (qa (bH (En []) (s0.1.getD [])) fun Zk=>
      qa (bH Zk [v75]) fun Zl=>
      qa (bH (En []) (s0.2.1.getD [])) fun P6=>
      qa (bH P6 [Di.1]) fun Zt=>
      En (.inl (Zl,Zt,qe .i64 (s0.2.2.1+1),Gn,Gn)))
      (En (.inr (.inl (qe .i64 (s0.2.2.1+1),Di.2,Di.1.day,Di.1.lots,Di.1.ae,Di.1.units))))))
    (En (.inr (.inl (qe .i64 (s0.2.2.1+1),11,0,Ey,Ey,Ey)))))
   (En (.inr (.inl (qe .i64 (s0.2.2.1+1),v77,0,Ey,Ey,Ey)))))
  (En (.inr (.inr (s0.1,s0.2.2.2.1,s0.2.1,s0.2.2.2.2,s0.2.2.1))))
def AA (a0:Option (List GEv))(s0:(Option (List GEv))×(Option (List aj))×Int×Bool×Bool):bf:=⟨[(0,sl 5 vev a0,I),(3,.ptr 0 0,I),(6,sl 5 vev s0.1,s0.2.2.2.1),(7,sl 4 zo s0.2.1,s0.2.2.2.2),(8,Iv s0.2.2.1,I)],[kZ]⟩
def FN (a0:Option (List GEv)):(Int×Int×Int×(Option (List jd))×(Option (List aS))×(Option (List ay)))⊕((Option (List GEv))×Bool×(Option (List aj))×Bool×Int)→jf×bf
 | .inl d=>(.ret,⟨[(2,Nl,I),(3,.ptr 0 0,I),(4,Iv d.1,I),(5,Iv d.2.1,I)],[kZ,.cells [(Iv d.2.2.1,I),(sl 5 jc d.2.2.2.1,I),(sl 4 qv d.2.2.2.2.1,I),(sl 8 aY d.2.2.2.2.2,I)]]⟩)
 | .inr d=>(.exit 0,⟨[(0,sl 5 vev a0,I),(3,.ptr 0 0,I),(6,sl 5 vev d.1,d.2.1),(7,sl 4 zo d.2.2.1,d.2.2.2.1),(8,Iv d.2.2.2.2,I),(21,.bool I,I)],[kZ]⟩)
theorem j73 (a0:Option (List GEv))(s0:(Option (List GEv))×(Option (List aj))×Int×Bool×Bool)(r)(h:pq a0 s0=En r):jz pr FO (AA a0) (FN a0) s0 r:=by
 unfold pq at h
 repeat' first|(replace h:=qb h;obtain⟨d,g,h⟩:=h;with_reducible first|replace g:=W33 g|replace g:=zko g|replace g:=jev g|replace g:=jy8 g|replace g:=jr1 g|skip)|(replace h:=qd h;rcases h with⟨g,h⟩|⟨g,h⟩)
 all_goals (cases h<;>(first|(refine qz ?_;simp only[go_sem,seval,FO,AA,jg,FN,mP, *]<;>rfl)|(refine jp ?_;simp only[go_sem,seval,FO,AA,jg,FN,mP, *]<;>rfl)|(refine q9a ?_ rfl (by first|simp only[go_sem,seval,AA]|rfl) (by first|simp only[go_sem,seval,AA]|rfl);simp only[go_sem,seval,FO,AA,jg,FN,mP, *];exact⟨_,rfl⟩)))
theorem j7e (a0:Option (List GEv)){s0 d}(h:bm (pq a0) s0=En d):X pr (.loop FO) (AA a0 s0)=En (FN a0 d):=zj (j73 a0) h
def f93 (a0:Option (List GEv)):Option ((Option (List GEv))×aj×Int×Int):=
 cond (decide (1000<((a0.getD []).length:Int)))
  (En (Ey,⟨0,Ey,Ey,Ey⟩,0,5))
  (qa (bm (pq a0) (Ey,En [⟨0,Ey,Ey,Ey⟩],0,I,Gn)) fun d103=>match d103 with
   | .inl d105=>
    En (Ey,⟨0,Ey,Ey,Ey⟩,d105.1,d105.2.1)
   | .inr d106=>
    qa (qr (d106.2.2.1.getD []) ((d106.1.getD []).length:Int)) fun v107=>
    En (d106.1,v107,0,0))
theorem W93 {a0 r}(h:f93 a0=En r):qc pr (X pr) 93 [sl 5 vev a0]=En (.aB [sl 5 vev r.1,aR r.2.1,Iv r.2.2.1,Iv r.2.2.2],I):=by
 unfold f93 at h
 refine zh Qe ?_
 repeat' first|(replace h:=qb h;obtain⟨d,g,h⟩:=h; (with_reducible first|(replace g:=j7e a0 g;rcases d with d|d<;>dsimp only[AA,FN,zk,lD,List.map,jm,j9,jc,qv,aY,zo,vev,bn,ja,yq]at g h)|skip);try dsimp only[zk,lD,List.map,jm,j9,jc,qv,aY,zo,vev,bn,ja,yq,aE,aR,aU,aL,aP,aD]at g)|(replace h:=qd h;rcases h with⟨g,h⟩|⟨g,h⟩)
 all_goals (cases h<;>(simp only[go_sem,seval,Qe,jg, *];exact⟨_,rfl⟩))
def f38 (a0:Option (List GEv)):Option (aj×Int×Int):=
 qa (f93 a0) fun v1=>
 En (v1.2.1,v1.2.2.1,v1.2.2.2)
theorem W38 {a0 r}(h:f38 a0=En r):qc pr (X pr) 38 [sl 5 vev a0]=En (.aB [aR r.1,Iv r.2.1,Iv r.2.2],I):=by
 unfold f38 at h
 refine zh Ks ?_
 repeat' first|(replace h:=qb h;obtain⟨d,g,h⟩:=h;with_reducible first|replace g:=W93 g|skip)|(replace h:=qd h;rcases h with⟨g,h⟩|⟨g,h⟩)
 all_goals (cases h<;>(simp only[go_sem,seval,Ks, *];exact⟨_,rfl⟩))
end Go.Z
end
