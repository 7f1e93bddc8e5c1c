/- Chapter 10. -/
import Derived.Test.YtimdocpnkimlfaaGreatDoorV0
set_option linter.unusedVariables false
set_option linter.unusedSimpArgs false
set_option maxRecDepth 100000
set_option maxHeartbeats 4000000
noncomputable section
open Bool renaming false→I,cond_eq_ite→Gb,true→Gh
open Option renaming some→En,none→Gd,isNone_none→Gi
open Nat renaming eq_of_beq_eq_true→Ga,beq→Ge
namespace Go.Z
open Go Go.Abs Go.W
def Et (a0:ak)(a1:GEv):Option (ak×Int):=
 qa (qr (a1.names.getD []) 0) fun v1=>
 qa (wM a0 v1) fun v3=>
 cond (decide (v3<0))
  (En (a0,10))
  (qa (qr (a0.au.getD []) v3) fun v6=>
  cond (decide (a1.kind=([104,111,108,100]:List UInt8)))
   (cond v6.held
    (En (a0,34))
    (cond (decide (a1.kind=([102,114,101,101]:List UInt8)))
     (En (a0,20))
     (qa (zG a0 v3 (⟨v6.name,v6.kind,v6.count,v6.left,Gh⟩)) fun v11=>
     En (v11,0))))
   (cond (decide (a1.kind=([102,114,101,101]:List UInt8)))
    (cond v6.held
     (qa (zG a0 v3 (⟨v6.name,v6.kind,v6.count,v6.left,I⟩)) fun fJ=>
     En (fJ,0))
     (En (a0,20)))
    (qa (zG a0 v3 (⟨v6.name,v6.kind,v6.count,v6.left,I⟩)) fun gC=>
    En (gC,0))))
theorem zf5 {a0 a1 r}(h:Et a0 a1=En r):qc pr (X pr) 201 [aR a0,aE a1]=En (.aJ [aR r.1,Iv r.2],I):=by
 unfold Et at h
 refine zh ux ?_
 repeat' first|(replace h:=qb h;obtain⟨d,g,h⟩:=h;with_reducible first|replace g:=Jn g|replace g:=jrl g|skip)|(replace h:=qd h;rcases h with⟨g,h⟩|⟨g,h⟩)
 all_goals (cases h<;>(simp only[go_sem,seval,ux,jg, *];exact⟨_,rfl⟩))
def zI (a0:ak)(a1:GEv):Option (ak×Int):=
 qa (qr (a1.names.getD []) 0) fun v1=>
 qa (wN a0 v1) fun v3=>
 cond (decide (v3<0))
  (En (a0,10))
  (qa (qr (a0.ae.getD []) v3) fun v6=>
  cond (decide (a1.kind=([110,101,101,100]:List UInt8)))
   (qa (qr (a1.values.getD []) 1) fun v9=>
   cond (decide (10000<v9))
    (En (a0,3))
    (qa (qr (a1.names.getD []) 1) fun v12=>
    qa (HW v6.dn (⟨v12,v9⟩)) fun eu=>
    cond eu.2
     (cond (decide (16<((eu.1.getD []).length:Int)))
      (En (a0,5))
      (qa (zH a0 v3 (⟨v6.name,eu.1,v6.dt,v6.aH⟩)) fun gV=>
      En (gV,0)))
     (cond (decide (16<((eu.1.getD []).length:Int)))
      (En (a0,5))
      (qa (zH a0 v3 (⟨v6.name,eu.1,v6.dt,v6.aH⟩)) fun v21=>
      En (v21,0)))))
   (cond (decide (a1.kind=([116,101,115,116]:List UInt8)))
    (qa (qr (a1.values.getD []) 2) fun v24=>
    qa (qr (a1.values.getD []) 1) fun v26=>
    cond (decide (v24<v26))
     (En (a0,11))
     (qa (qr (a1.names.getD []) 1) fun ic=>
     qa (f260 v6.dt (⟨ic,v26,v24⟩)) fun v31=>
     cond v31.2
      (cond (decide (16<((v31.1.getD []).length:Int)))
       (En (a0,5))
       (qa (zH a0 v3 (⟨v6.name,v6.dn,v31.1,v6.aH⟩)) fun cM=>
       En (cM,0)))
      (cond (decide (16<((v31.1.getD []).length:Int)))
       (En (a0,5))
       (qa (zH a0 v3 (⟨v6.name,v6.dn,v31.1,v6.aH⟩)) fun tf=>
       En (tf,0)))))
    (cond (decide (((v6.dn.getD []).length:Int)=0))
     (En (a0,12))
     (cond (decide (100≤((v6.aH.getD []).length:Int)))
      (En (a0,5))
      (qa (bB (En []) (v6.aH.getD [])) fun Yb=>
      qa (bB Yb [⟨v6.dn,v6.dt⟩]) fun pj=>
      qa (zH a0 v3 (⟨v6.name,v6.dn,v6.dt,pj⟩)) fun v46=>
      En (v46,0))))))
theorem zcp {a0 a1 r}(h:zI a0 a1=En r):qc pr (X pr) 200 [aR a0,aE a1]=En (.aJ [aR r.1,Iv r.2],I):=by
 unfold zI at h
 refine zh xG ?_
 repeat' first|(replace h:=qb h;obtain⟨d,g,h⟩:=h;with_reducible first|replace g:=Nw g|replace g:=ze1 g|replace g:=zd4 g|replace g:=zcx g|replace g:=Ts g|skip)|(replace h:=qd h;rcases h with⟨g,h⟩|⟨g,h⟩)
 all_goals (cases h<;>(simp only[go_sem,seval,xG,jg,kw, *];exact⟨_,rfl⟩))
def zJ (a0:ak)(a1:Int)(a2:GEv)(v1:bg)(v5:Int)(v8:je)(fJ:bf)(s0:Bool×Int):Option ((Bool×Int)⊕((Bool×Int))):=
 cond (decide (s0.2<((fJ.aB.getD []).length:Int)))
  (cond s0.1
   (En (.inl (Gh,qe .i64 (s0.2+1))))
   (qa (qr (fJ.aB.getD []) s0.2) fun v26=>
   En (.inl (decide (v26.k=v8.kind),qe .i64 (s0.2+1)))))
  (En (.inr (s0.1,s0.2)))
def PW (a0:ak)(a1:Int)(a2:GEv)(v1:bg)(v5:Int)(v8:je)(fJ:bf)(s0:Bool×Int):aY:=⟨[(1,Iv a1,I),(3,.ai (aR a0),I),(5,.ai (aE a2),I),(6,.ptr 0 0,I),(8,.ptr 1 0,I),(9,Iv v5,I),(10,.ptr 2 0,I),(11,.ai (aD fJ),I),(12,.bool s0.1,I),(13,Iv s0.2,I)],[kZ,.cells [(.str v1.name,I),(.str v1.product,I),(Iv v1.version,I),(sl 2 bp v1.uses,I),(sl 3 jb v1.results,I),(.str v1.partner,I),(.bool I,I),(Iv v1.ah,I)],.cells [(.str v8.name,I),(.str v8.kind,I),(Iv v8.count,I),(Iv v8.left,I),(.bool I,I)]]⟩
def PX (a0:ak)(a1:Int)(a2:GEv)(v1:bg)(v5:Int)(v8:je)(fJ:bf)(d:(Bool×Int)):jf×aY:=(.exit 0,⟨[(1,Iv a1,I),(3,.ai (aR a0),I),(5,.ai (aE a2),I),(6,.ptr 0 0,I),(8,.ptr 1 0,I),(9,Iv v5,I),(10,.ptr 2 0,I),(11,.ai (aD fJ),I),(12,.bool d.1,I),(13,Iv d.2,I),(52,.bool I,I)],[kZ,.cells [(.str v1.name,I),(.str v1.product,I),(Iv v1.version,I),(sl 2 bp v1.uses,I),(sl 3 jb v1.results,I),(.str v1.partner,I),(.bool I,I),(Iv v1.ah,I)],.cells [(.str v8.name,I),(.str v8.kind,I),(Iv v8.count,I),(Iv v8.left,I),(.bool I,I)]]⟩)
theorem juo (a0:ak)(a1:Int)(a2:GEv)(v1:bg)(v5:Int)(v8:je)(fJ:bf)(s0:Bool×Int)(r)(h:zJ a0 a1 a2 v1 v5 v8 fJ s0=En r):jw pr PY (PW a0 a1 a2 v1 v5 v8 fJ) (PX a0 a1 a2 v1 v5 v8 fJ) s0 r:=by
 unfold zJ at h
 repeat' first|(replace h:=qb h;obtain⟨d,g,h⟩:=h)|(replace h:=qd h;rcases h with⟨g,h⟩|⟨g,h⟩)
 all_goals (cases h<;>((first|refine qw ?_|refine jm ?_);simp only[go_sem,seval,PY,PW,jg,PX, *]<;>rfl))
theorem jt6 (a0:ak)(a1:Int)(a2:GEv)(v1:bg)(v5:Int)(v8:je)(fJ:bf){s0 d}(h:bu (zJ a0 a1 a2 v1 v5 v8 fJ) s0=En d):X pr (.loop PY) (PW a0 a1 a2 v1 v5 v8 fJ s0)=En (PX a0 a1 a2 v1 v5 v8 fJ d):=zc (juo a0 a1 a2 v1 v5 v8 fJ) h
def f263 (a0:ak)(a1:Int)(a2:GEv):Option (ak×Int):=
 qa (qr (a0.units.getD []) a1) fun v1=>
 qa (qr (a2.names.getD []) 1) fun v3=>
 qa (wM a0 v3) fun v5=>
 cond (decide (v5<0))
  (En (a0,10))
  (qa (qr (a0.au.getD []) v5) fun v8=>
  cond v1.ar
   (En (a0,21))
   (qa (qr (a2.values.getD []) 1) fun v11=>
   cond (decide (v11=0))
    (En (a0,3))
    (cond v8.held
     (En (a0,34))
     (qa (pR a0 (⟨v1.name,v1.product,v1.version,v1.uses,v1.results,v1.partner,I,v1.ah⟩)) fun fJ=>
     qa (bu (zJ a0 a1 a2 v1 v5 v8 fJ) (I,0)) fun d28=>
     cond d28.1
      (cond (decide (v8.left<v11))
       (En (a0,4))
       (qa (HX v1.uses v8.name v11) fun lu=>
       cond lu.2
        (qa (zG a0 v5 (⟨v8.name,v8.kind,v8.count,qe .i64 (v8.left-v11),I⟩)) fun cM=>
        qa (f267 cM a1 (⟨v1.name,v1.product,v1.version,lu.1,v1.results,v1.partner,I,v1.ah⟩)) fun v37=>
        En (v37,0))
        (qa (zG a0 v5 (⟨v8.name,v8.kind,v8.count,qe .i64 (v8.left-v11),I⟩)) fun EY=>
        qa (f267 EY a1 (⟨v1.name,v1.product,v1.version,lu.1,v1.results,v1.partner,I,v1.ah⟩)) fun du=>
        En (du,0))))
      (En (a0,7))))))
theorem zhc {a0 a1 a2 r}(h:f263 a0 a1 a2=En r):qc pr (X pr) 263 [aR a0,Iv a1,aE a2]=En (.aJ [aR r.1,Iv r.2],I):=by
 unfold f263 at h
 refine zh uy ?_
 repeat' first|(replace h:=qb h;obtain⟨d,g,h⟩:=h;with_reducible first|replace g:=Jn g|replace g:=Ok g|replace g:=zft g|replace g:=jrl g|replace g:=Ya g|(replace g:=jt6 a0 a1 a2 _ _ _ _ g;dsimp only[PW,PX,zf]at g h)|skip)|(replace h:=qd h;rcases h with⟨g,h⟩|⟨g,h⟩)
 all_goals (cases h<;>(simp only[go_sem,seval,uy,jg, *];exact⟨_,rfl⟩))
def f264 (a0:ak)(a1:Int)(a2:GEv):Option (ak×Int):=
 qa (qr (a0.units.getD []) a1) fun v1=>
 qa (qr (a2.names.getD []) 1) fun v3=>
 qa (Bg a0 v3) fun v5=>
 cond (decide (v5<0))
  (En (a0,10))
  (qa (qr (a0.units.getD []) v5) fun v8=>
  cond (decide (v5=a1))
   (En (a0,9))
   (cond (decide (v1.product=v8.product))
    (cond (decide (v1.version=v8.version))
     (cond v1.ar
      (En (a0,21))
      (cond v8.ar
       (En (a0,21))
       (cond (decide (v1.partner=[]))
        (cond (decide (v8.partner=[]))
         (qa (f267 a0 a1 (⟨v1.name,v1.product,v1.version,v1.uses,v1.results,v8.name,I,v1.ah⟩)) fun gC=>
         qa (f267 gC v5 (⟨v8.name,v8.product,v8.version,v8.uses,v8.results,v1.name,I,v8.ah⟩)) fun nJ=>
         En (nJ,0))
         (En (a0,35)))
        (En (a0,35)))))
     (En (a0,30)))
    (En (a0,30))))
theorem zj6 {a0 a1 a2 r}(h:f264 a0 a1 a2=En r):qc pr (X pr) 264 [aR a0,Iv a1,aE a2]=En (.aJ [aR r.1,Iv r.2],I):=by
 unfold f264 at h
 refine zh uz ?_
 repeat' first|(replace h:=qb h;obtain⟨d,g,h⟩:=h;with_reducible first|replace g:=Yd g|replace g:=Ya g|skip)|(replace h:=qd h;rcases h with⟨g,h⟩|⟨g,h⟩)
 all_goals (cases h<;>(simp only[go_sem,seval,uz,jg, *];exact⟨_,rfl⟩))
def zK (a0:ak)(a1:GEv)(v3:Int)(v6:bg)(ea:bf)(s0:Bool×Int):Option ((Bool×Int)⊕((Bool×Int))):=
 cond (decide (s0.2<((ea.aA.getD []).length:Int)))
  (cond s0.1
   (En (.inl (Gh,qe .i64 (s0.2+1))))
   (qa (qr (ea.aA.getD []) s0.2) fun v31=>
   qa (qr (a1.names.getD []) 1) fun xm=>
   En (.inl (decide (v31.k=xm),qe .i64 (s0.2+1)))))
  (En (.inr (s0.1,s0.2)))
def PZ (a0:ak)(a1:GEv)(v3:Int)(v6:bg)(ea:bf)(s0:Bool×Int):aY:=⟨[(2,.ai (aR a0),I),(3,.ai (aE a1),I),(4,.ptr 0 0,I),(6,Iv v3,I),(7,.ptr 1 0,I),(8,.ai (aD ea),I),(9,.bool s0.1,I),(10,Iv s0.2,I)],[kZ,.cells [(.str v6.name,I),(.str v6.product,I),(Iv v6.version,I),(sl 2 bp v6.uses,I),(sl 3 jb v6.results,I),(.str v6.partner,I),(.bool I,I),(Iv v6.ah,I)]]⟩
def P0 (a0:ak)(a1:GEv)(v3:Int)(v6:bg)(ea:bf)(d:(Bool×Int)):jf×aY:=(.exit 1,⟨[(2,.ai (aR a0),I),(3,.ai (aE a1),I),(4,.ptr 0 0,I),(6,Iv v3,I),(7,.ptr 1 0,I),(8,.ai (aD ea),I),(9,.bool d.1,I),(10,Iv d.2,I),(64,.bool I,I)],[kZ,.cells [(.str v6.name,I),(.str v6.product,I),(Iv v6.version,I),(sl 2 bp v6.uses,I),(sl 3 jb v6.results,I),(.str v6.partner,I),(.bool I,I),(Iv v6.ah,I)]]⟩)
theorem jv8 (a0:ak)(a1:GEv)(v3:Int)(v6:bg)(ea:bf)(s0:Bool×Int)(r)(h:zK a0 a1 v3 v6 ea s0=En r):jw pr P1 (PZ a0 a1 v3 v6 ea) (P0 a0 a1 v3 v6 ea) s0 r:=by
 unfold zK at h
 repeat' first|(replace h:=qb h;obtain⟨d,g,h⟩:=h)|(replace h:=qd h;rcases h with⟨g,h⟩|⟨g,h⟩)
 all_goals (cases h<;>((first|refine qw ?_|refine jm ?_);simp only[go_sem,seval,P1,PZ,jg,P0, *]<;>rfl))
theorem jw6 (a0:ak)(a1:GEv)(v3:Int)(v6:bg)(ea:bf){s0 d}(h:bu (zK a0 a1 v3 v6 ea) s0=En d):X pr (.loop P1) (PZ a0 a1 v3 v6 ea s0)=En (P0 a0 a1 v3 v6 ea d):=zc (jv8 a0 a1 v3 v6 ea) h
def Ev (a0:ak)(a1:GEv):Option (ak×Int):=
 qa (qr (a1.names.getD []) 0) fun v1=>
 qa (Bg a0 v1) fun v3=>
 cond (decide (v3<0))
  (En (a0,10))
  (qa (qr (a0.units.getD []) v3) fun v6=>
  cond (decide (a1.kind=([117,115,101]:List UInt8)))
   (qa (f263 a0 v3 a1) fun v9=>
   En (v9.1,v9.2))
   (cond (decide (a1.kind=([112,97,105,114]:List UInt8)))
    (qa (f264 a0 v3 a1) fun v12=>
    En (v12.1,v12.2))
    (cond (decide (a1.kind=([109,101,97,115,117,114,101]:List UInt8)))
     (cond v6.ar
      (En (a0,21))
      (qa (pR a0 (⟨v6.name,v6.product,v6.version,v6.uses,v6.results,v6.partner,I,v6.ah⟩)) fun ea=>
      qa (bu (zK a0 a1 v3 v6 ea) (I,0)) fun d35=>
      cond d35.1
       (cond (decide (64≤((v6.results.getD []).length:Int)))
        (En (a0,5))
        (qa (bB (En []) (v6.results.getD [])) fun EY=>
        qa (qr (a1.names.getD []) 1) fun du=>
        qa (qr (a1.values.getD []) 1) fun mN=>
        qa (bB EY [⟨du,v6.version,mN⟩]) fun sj=>
        qa (f267 a0 v3 (⟨v6.name,v6.product,v6.version,v6.uses,sj,v6.partner,I,v6.ah⟩)) fun v47=>
        En (v47,0)))
       (En (a0,7))))
     (cond (decide (a1.kind=([117,112,100,97,116,101]:List UInt8)))
      (cond v6.ar
       (En (a0,21))
       (qa (D9 a0 (⟨v6.name,v6.product,v6.version,v6.uses,v6.results,v6.partner,I,v6.ah⟩)) fun v51=>
       cond (decide (v6.version=v51))
        (En (a0,32))
        (qa (f267 a0 v3 (⟨v6.name,v6.product,v51,v6.uses,v6.results,v6.partner,I,v6.ah⟩)) fun EZ=>
        En (EZ,0))))
      (cond (decide (a1.kind=([115,104,105,112]:List UInt8)))
       (qa (f266 a0 v6) fun Ny=>
       cond (decide (Ny=0))
        (qa (f267 a0 v3 (⟨v6.name,v6.product,v6.version,v6.uses,v6.results,v6.partner,Gh,v6.ah⟩)) fun v60=>
        En (v60,0))
        (En (a0,Ny)))
       (cond v6.ar
        (qa (f267 a0 v3 (⟨v6.name,v6.product,v6.version,v6.uses,v6.results,v6.partner,Gh,qe .i64 (v6.ah+1)⟩)) fun XR=>
        En (XR,0))
        (En (a0,20))))))))
theorem zcf {a0 a1 r}(h:Ev a0 a1=En r):qc pr (X pr) 202 [aR a0,aE a1]=En (.aJ [aR r.1,Iv r.2],I):=by
 unfold Ev at h
 refine zh xH ?_
 repeat' first|(replace h:=qb h;obtain⟨d,g,h⟩:=h;with_reducible first|replace g:=Yd g|replace g:=zhc g|replace g:=zj6 g|replace g:=Ok g|replace g:=Ya g|replace g:=jq6 g|replace g:=zhf g|replace g:=yS g|(replace g:=jw6 a0 a1 _ _ _ g;dsimp only[PZ,P0,zf]at g h)|skip)|(replace h:=qd h;rcases h with⟨g,h⟩|⟨g,h⟩)
 all_goals (cases h<;>(simp only[go_sem,seval,xH,jg,kw, *];exact⟨_,rfl⟩))
def Il (a0:ak)(a1:GEv):Option (ak×Int):=
 qa (qr (a1.values.getD []) 0) fun v1=>
 cond (decide (v1<a0.day))
  (En (a0,20))
  (cond (decide (a1.kind=([108,111,116]:List UInt8)))
   (qa (rQ a0 a1) fun v5=>
   En (⟨v1,v5.1.au,v5.1.ae,v5.1.units⟩,v5.2))
   (cond (decide (a1.kind=([112,114,111,100,117,99,116]:List UInt8)))
    (qa (rQ a0 a1) fun v8=>
    En (⟨v1,v8.1.au,v8.1.ae,v8.1.units⟩,v8.2))
    (cond (decide (a1.kind=([98,117,105,108,100]:List UInt8)))
     (qa (rQ a0 a1) fun v11=>
     En (⟨v1,v11.1.au,v11.1.ae,v11.1.units⟩,v11.2))
     (cond (decide (a1.kind=([110,101,101,100]:List UInt8)))
      (qa (zI a0 a1) fun eu=>
      En (⟨v1,eu.1.au,eu.1.ae,eu.1.units⟩,eu.2))
      (cond (decide (a1.kind=([116,101,115,116]:List UInt8)))
       (qa (zI a0 a1) fun gC=>
       En (⟨v1,gC.1.au,gC.1.ae,gC.1.units⟩,gC.2))
       (cond (decide (a1.kind=([105,115,115,117,101]:List UInt8)))
        (qa (zI a0 a1) fun v20=>
        En (⟨v1,v20.1.au,v20.1.ae,v20.1.units⟩,v20.2))
        (cond (decide (a1.kind=([104,111,108,100]:List UInt8)))
         (qa (Et a0 a1) fun v23=>
         En (⟨v1,v23.1.au,v23.1.ae,v23.1.units⟩,v23.2))
         (cond (decide (a1.kind=([102,114,101,101]:List UInt8)))
          (qa (Et a0 a1) fun v26=>
          En (⟨v1,v26.1.au,v26.1.ae,v26.1.units⟩,v26.2))
          (qa (Ev a0 a1) fun v28=>
          En (⟨v1,v28.1.au,v28.1.ae,v28.1.units⟩,v28.2))))))))))
theorem zby {a0 a1 r}(h:Il a0 a1=En r):qc pr (X pr) 145 [aR a0,aE a1]=En (.aJ [aR r.1,Iv r.2],I):=by
 unfold Il at h
 refine zh xI ?_
 repeat' first|(replace h:=qb h;obtain⟨d,g,h⟩:=h;with_reducible first|replace g:=zdv g|replace g:=zcp g|replace g:=zf5 g|replace g:=zcf g|skip)|(replace h:=qd h;rcases h with⟨g,h⟩|⟨g,h⟩)
 all_goals (cases h<;>(simp only[go_sem,seval,xI,jg, *];exact⟨_,rfl⟩))
end Go.Z
namespace Go.Z
open Go Go.Abs Go.W
def f47 (a0:GEv):Option Int:=
 qa (f60 a0.number 1 1000) fun v1=>
 qa (f48 (!(D5 a0.kind)) 13) fun v3=>
 qa (f48 (!(decide (((a0.names.getD []).length:Int)=((j8 a0.kind).length:Int))&&decide (((a0.values.getD []).length:Int)=(ny a0.kind)))) 2) fun v5=>
 qa (f46 (En [v1,v3,v5])) fun v7=>
 cond (decide (v7=0))
  (qa (Iq a0.names) fun v10=>
  qa (Iu a0.values) fun v12=>
  qa (f46 v10.1) fun eu=>
  qa (f46 v12.1) fun ea=>
  qa (f48 (!decide (a0.text=[])) 1) fun gV=>
  qa (f46 (En [eu,ea,gV])) fun v20=>
  En v20)
  (En v7)
theorem W47 {a0 r}(h:f47 a0=En r):qc pr (X pr) 47 [aE a0]=En (Iv r,I):=by
 unfold f47 at h
 refine zh JJ ?_
 repeat' first|(replace h:=qb h;obtain⟨d,g,h⟩:=h; (with_reducible first|replace g:=Jo g|replace g:=fK g|replace g:=lf g|replace g:=zgd g|replace g:=zcd g|skip);try dsimp only[zf,lR,List.map,z7,yl,jd,qu,bD,jl,vev,bp,jb,yf,aE,aR,aU,aL,aP,aD]at g)|(replace h:=qd h;rcases h with⟨g,h⟩|⟨g,h⟩)
 all_goals (cases h<;>(simp only[go_sem,seval,JJ,jpd, *];exact⟨_,rfl⟩))
end Go.Z
namespace Go.Z
open Go Go.Abs Go.W
def oY (a0:Option (List GEv))(s0:(Option (List GEv))×(Option (List ak))×Int×Bool×Bool):Option (((Option (List GEv))×(Option (List ak))×Int×Bool×Bool)⊕((Int×Int×Int×(Option (List je))×(Option (List aC))×(Option (List bg)))⊕((Option (List GEv))×Bool×(Option (List ak))×Bool×Int))):=
 cond (decide (s0.2.2.1<((a0.getD []).length:Int)))
  (qa (qr (a0.getD []) s0.2.2.1) fun v75=>
  qa (f33 v75) fun v77=>
  cond (decide (v77=0))
   (cond (decide (v75.number=(qe .i64 (s0.2.2.1+1))))
    (cond (decide (v75.kind=([117,110,100,111]:List UInt8)))
     (cond (decide (((s0.1.getD []).length:Int)=0))
      (En (.inr (.inl (qe .i64 (s0.2.2.1+1),12,0,Gd,Gd,Gd))))
      (qa (qr (s0.1.getD []) (qe .i64 (((s0.1.getD []).length:Int)-1))) fun Yf=>
      cond (decide (Yf.kind=([115,104,105,112]:List UInt8)))
       (En (.inr (.inl (qe .i64 (s0.2.2.1+1),19,0,Gd,Gd,Gd))))
       (qa (wK s0.1 Gd (En (qe .i64 (((s0.1.getD []).length:Int)-1)))) fun v86=>
       qa (wK s0.2.1 Gd (En ((s0.1.getD []).length:Int))) fun zV=>
       En (.inl (v86,zV,qe .i64 (s0.2.2.1+1),I,I)))))
     (qa (qr (s0.2.1.getD []) ((s0.1.getD []).length:Int)) fun xg=>
     qa (Il xg v75) fun Cw=>
     cond (decide (Cw.2=0))
      (qa (bB (En []) (s0.1.getD [])) fun Yg=>
      qa (bB Yg [v75]) fun Yh=>
      qa (bB (En []) (s0.2.1.getD [])) fun NA=>
      qa (bB NA [Cw.1]) fun Yv=>
      En (.inl (Yh,Yv,qe .i64 (s0.2.2.1+1),Gh,Gh)))
      (En (.inr (.inl (qe .i64 (s0.2.2.1+1),Cw.2,Cw.1.day,Cw.1.au,Cw.1.ae,Cw.1.units))))))
    (En (.inr (.inl (qe .i64 (s0.2.2.1+1),11,0,Gd,Gd,Gd)))))
   (En (.inr (.inl (qe .i64 (s0.2.2.1+1),v77,0,Gd,Gd,Gd)))))
  (En (.inr (.inr (s0.1,s0.2.2.2.1,s0.2.1,s0.2.2.2.2,s0.2.2.1))))
def Aa (a0:Option (List GEv))(s0:(Option (List GEv))×(Option (List ak))×Int×Bool×Bool):aY:=⟨[(0,sl 5 vev a0,I),(3,.ptr 0 0,I),(6,sl 5 vev s0.1,s0.2.2.2.1),(7,sl 4 jl s0.2.1,s0.2.2.2.2),(8,Iv s0.2.2.1,I)],[kZ]⟩
def E5 (a0:Option (List GEv)):(Int×Int×Int×(Option (List je))×(Option (List aC))×(Option (List bg)))⊕((Option (List GEv))×Bool×(Option (List ak))×Bool×Int)→jf×aY
 | .inl d=>(.ret,⟨[(2,Nl,I),(3,.ptr 0 0,I),(4,Iv d.1,I),(5,Iv d.2.1,I)],[kZ,.cells [(Iv d.2.2.1,I),(sl 5 jd d.2.2.2.1,I),(sl 4 qu d.2.2.2.2.1,I),(sl 8 bD d.2.2.2.2.2,I)]]⟩)
 | .inr d=>(.exit 0,⟨[(0,sl 5 vev a0,I),(3,.ptr 0 0,I),(6,sl 5 vev d.1,d.2.1),(7,sl 4 jl d.2.2.1,d.2.2.2.1),(8,Iv d.2.2.2.2,I),(21,.bool I,I)],[kZ]⟩)
theorem j6y (a0:Option (List GEv))(s0:(Option (List GEv))×(Option (List ak))×Int×Bool×Bool)(r)(h:oY a0 s0=En r):jw pr E6 (Aa a0) (E5 a0) s0 r:=by
 unfold oY at h
 repeat' first|(replace h:=qb h;obtain⟨d,g,h⟩:=h;with_reducible first|replace g:=W33 g|replace g:=zby g|replace g:=jdy g|replace g:=jeu g|replace g:=jo0 g|skip)|(replace h:=qd h;rcases h with⟨g,h⟩|⟨g,h⟩)
 all_goals (cases h<;>(first|(refine qw ?_;simp only[go_sem,seval,E6,Aa,jg,E5,kw, *]<;>rfl)|(refine jm ?_;simp only[go_sem,seval,E6,Aa,jg,E5,kw, *]<;>rfl)|(refine q8c ?_ rfl (by first|simp only[go_sem,seval,Aa]|rfl) (by first|simp only[go_sem,seval,Aa]|rfl);simp only[go_sem,seval,E6,Aa,jg,E5,kw, *];exact⟨_,rfl⟩)))
theorem j1o (a0:Option (List GEv)){s0 d}(h:bu (oY a0) s0=En d):X pr (.loop E6) (Aa a0 s0)=En (E5 a0 d):=zc (j6y a0) h
def f93 (a0:Option (List GEv)):Option ((Option (List GEv))×ak×Int×Int):=
 cond (decide (1000<((a0.getD []).length:Int)))
  (En (Gd,⟨0,Gd,Gd,Gd⟩,0,5))
  (qa (bu (oY a0) (Gd,En [⟨0,Gd,Gd,Gd⟩],0,I,Gh)) fun d103=>match d103 with
   | .inl d105=>
    En (Gd,⟨0,Gd,Gd,Gd⟩,d105.1,d105.2.1)
   | .inr d106=>
    qa (qr (d106.2.2.1.getD []) ((d106.1.getD []).length:Int)) fun v107=>
    En (d106.1,v107,0,0))
theorem W93 {a0 r}(h:f93 a0=En r):qc pr (X pr) 93 [sl 5 vev a0]=En (.aJ [sl 5 vev r.1,aR r.2.1,Iv r.2.2.1,Iv r.2.2.2],I):=by
 unfold f93 at h
 refine zh P2 ?_
 repeat' first|(replace h:=qb h;obtain⟨d,g,h⟩:=h; (with_reducible first|(replace g:=j1o a0 g;rcases d with d|d<;>dsimp only[Aa,E5,zf,lR,List.map,z7,yl,jd,qu,bD,jl,vev,bp,jb,yf]at g h)|skip);try dsimp only[zf,lR,List.map,z7,yl,jd,qu,bD,jl,vev,bp,jb,yf,aE,aR,aU,aL,aP,aD]at g)|(replace h:=qd h;rcases h with⟨g,h⟩|⟨g,h⟩)
 all_goals (cases h<;>(simp only[go_sem,seval,P2,jg, *];exact⟨_,rfl⟩))
def f38 (a0:Option (List GEv)):Option (ak×Int×Int):=
 qa (f93 a0) fun v1=>
 En (v1.2.1,v1.2.2.1,v1.2.2.2)
theorem W38 {a0 r}(h:f38 a0=En r):qc pr (X pr) 38 [sl 5 vev a0]=En (.aJ [aR r.1,Iv r.2.1,Iv r.2.2],I):=by
 unfold f38 at h
 refine zh JK ?_
 repeat' first|(replace h:=qb h;obtain⟨d,g,h⟩:=h;with_reducible first|replace g:=W93 g|skip)|(replace h:=qd h;rcases h with⟨g,h⟩|⟨g,h⟩)
 all_goals (cases h<;>(simp only[go_sem,seval,JK, *];exact⟨_,rfl⟩))
end Go.Z
namespace Go.Z
open Go Go.Abs Go.W
def Yw (a0:bn)(e0:List (List UInt8×Int)):Option Bool:=
 En (decide ((mJ e0 a0.k)<a0.n))
theorem j3n {a0 e0 r}(h:Yw a0 e0=En r):qo pr (X pr) 194 [aN a0,.ai (.map 0)] [.map (kz e0)]=En (.bool r,I,[.map (kz e0)]):=by
 unfold Yw at h
 have hr:decide ((mJ e0 a0.k)<a0.n)=r:=En.inj h
 subst hr
 rw[ql (show pr.bO 194=En uA from rfl) (by simp)]
 simp only[go_sem,seval,uA,jmh]<;>rfl
def P3 (a0:Option (List bn))(e0:List (List UInt8×Int))(s0:Int):Option (Int⊕(Int⊕Int)):=
 cond (decide (s0<((a0.getD []).length:Int)))
  (qa (qr (a0.getD []) s0) fun eu=>
  qa (Yw eu e0) fun ea=>
  cond ea
   (En (.inr (.inl s0)))
   (En (.inl (qe .i64 (s0+1)))))
  (En (.inr (.inr s0)))
def P4 (a0:Option (List bn))(e0:List (List UInt8×Int))(s0:Int):aY:=⟨[(0,sl 2 bp a0,I),(1,.fn (.func 194) [] [.ai (.map 0)],I),(7,Lv a0,I),(8,Iv s0,I)],[.map (kz e0)]⟩
def P5 (a0:Option (List bn))(e0:List (List UInt8×Int)):Int⊕Int→jf×aY
 | .inl d=>(.ret,⟨[(4,Iv d,I)],[.map (kz e0)]⟩)
 | .inr d=>(.exit 0,⟨[(0,sl 2 bp a0,I),(1,.fn (.func 194) [] [.ai (.map 0)],I),(7,Lv a0,I),(8,Iv d,I),(9,.bool I,I)],[.map (kz e0)]⟩)
theorem jpa (a0:Option (List bn))(e0:List (List UInt8×Int))(s0:Int)(r)(h:P3 a0 e0 s0=En r):jw pr pi (P4 a0 e0) (P5 a0 e0) s0 r:=by
 unfold P3 at h
 repeat' first|(replace h:=qb h;obtain⟨d,g,h⟩:=h;with_reducible first|replace g:=j3n g|skip)|(replace h:=qd h;rcases h with⟨g,h⟩|⟨g,h⟩)
 all_goals (cases h<;>((first|refine qw ?_|refine jm ?_);simp only[go_sem,seval,pi,P4,jg,P5, *]<;>rfl))
theorem jo2 (a0:Option (List bn))(e0:List (List UInt8×Int)){s0 d}(h:bu (P3 a0 e0) s0=En d):X pr (.loop pi) (P4 a0 e0 s0)=En (P5 a0 e0 d):=zc (jpa a0 e0) h
def HA (a0:Option (List bn))(e0:List (List UInt8×Int)):Option Int:=
 qa (bu (P3 a0 e0) 0) fun d19=>match d19 with
  | .inl d21=>
   En d21
  | .inr d22=>
   En (-1)
theorem j00 {a0 e0 r}(h:HA a0 e0=En r):qo pr (X pr) 250 [sl 2 bp a0,.fn (.func 194) [] [.ai (.map 0)]] [.map (kz e0)]=En (Iv r,I,[.map (kz e0)]):=by
 unfold HA at h
 rw[ql (show pr.bO 250=En iZ from rfl) (by simp)]
 repeat' first|(replace h:=qb h;obtain⟨d,g,h⟩:=h;with_reducible first|(replace g:=jo2 a0 e0 g;rcases d with d|d<;>dsimp only[P4,P5,zf]at g h)|skip)|(replace h:=qd h;rcases h with⟨g,h⟩|⟨g,h⟩)
 all_goals (cases h<;>(simp only[go_sem,seval,iZ, *]<;>rfl))
def Hz (a0:Option (List bn))(e0:List (List UInt8×Int)):Option Bool:=
 qa (HA a0 e0) fun v1=>
 En (decide (0≤v1))
theorem j7r {a0 e0 r}(h:Hz a0 e0=En r):qo pr (X pr) 193 [sl 2 bp a0,.fn (.func 194) [] [.ai (.map 0)]] [.map (kz e0)]=En (.bool r,I,[.map (kz e0)]):=by
 unfold Hz at h
 obtain⟨v1,h2,h⟩:=qb h
 have sQ:qo pr (X pr) 250 [sl 2 bp a0,.fn (.func 194) [] [.ai (.map 0)]] [.map (kz e0)]=En (Iv v1,I,[.map (kz e0)]):=j00 h2
 have hr:decide (0≤v1)=r:=En.inj h
 subst hr
 rw[ql (show pr.bO 193=En lb from rfl) (by simp)]
 simp only[go_sem,seval,lb,sQ]<;>rfl
def LX (a0:je):Option Bool:=
 En a0.held
theorem zdm (hp:qi){a0 r}(h:LX a0=En r):qo pr (X pr) 135 [aL a0] hp=En (.bool r,I,hp):=by
 unfold LX at h
 have hr:a0.held=r:=En.inj h
 subst hr
 rw[ql (show pr.bO 135=En uC from rfl) (by simp)]
 simp only[go_sem,seval,uC]<;>rfl
def HF (a0:Option (List je))(s0:(Option (List je))×Int×Bool):Option (((Option (List je))×Int×Bool)⊕(((Option (List je))×Bool×Int))):=
 cond (decide (s0.2.1<((a0.getD []).length:Int)))
  (qa (qr (a0.getD []) s0.2.1) fun v20=>
  qa (LX v20) fun v22=>
  cond v22
   (cond s0.2.2
    (qa (bB s0.1 [v20]) fun v26=>
    En (.inl (v26,qe .i64 (s0.2.1+1),Gh)))
    (cond s0.1.isNone
     (qa (bB s0.1 [v20]) fun ic=>
     En (.inl (ic,qe .i64 (s0.2.1+1),Gh)))
     (Gd)))
   (En (.inl (s0.1,qe .i64 (s0.2.1+1),s0.2.2))))
  (En (.inr (s0.1,s0.2.2,s0.2.1)))
def P6 (a0:Option (List je))(s0:(Option (List je))×Int×Bool):aY:=⟨[(1,.fn (.func 135) [] [],I),(5,sl 5 jd s0.1,s0.2.2),(8,sl 5 jd a0,I),(9,Lv a0,I),(10,Iv s0.2.1,I)],[]⟩
def P7 (a0:Option (List je))(d:((Option (List je))×Bool×Int)):jf×aY:=(.exit 0,⟨[(1,.fn (.func 135) [] [],I),(5,sl 5 jd d.1,d.2.1),(8,sl 5 jd a0,I),(9,Lv a0,I),(10,Iv d.2.2,I),(11,.bool I,I)],[]⟩)
theorem jwm (a0:Option (List je))(s0:(Option (List je))×Int×Bool)(r)(h:HF a0 s0=En r):jw pr P8 (P6 a0) (P7 a0) s0 r:=by
 unfold HF at h
 repeat' first|(replace h:=qb h;obtain⟨d,g,h⟩:=h;with_reducible first|replace g:=zdm [] g|replace g:=LJ g|skip)|(replace h:=qd h;rcases h with⟨g,h⟩|⟨g,h⟩)
 all_goals (cases h<;>((first|refine qw ?_|refine jm ?_);simp only[go_sem,seval,P8,P6,jg,P7, *]<;>rfl))
theorem jrz (a0:Option (List je)){s0 d}(h:bu (HF a0) s0=En d):X pr (.loop P8) (P6 a0 s0)=En (P7 a0 d):=zc (jwm a0) h
def HE (a0:Option (List je)):Option ((Option (List je))×Bool):=
 qa (bu (HF a0) (Gd,0,I)) fun d31=>
 En (d31.1,d31.2.1)
theorem zf1 {a0 r}(h:HE a0=En r):qc pr (X pr) 134 [sl 5 jd a0,.fn (.func 135) [] []]=En (sl 5 jd r.1,r.2):=by
 unfold HE at h
 refine kg uD ?_
 repeat' first|(replace h:=qb h;obtain⟨d,g,h⟩:=h;with_reducible first|(replace g:=jrz a0 g;dsimp only[P6,P7,zf]at g h)|skip)|(replace h:=qd h;rcases h with⟨g,h⟩|⟨g,h⟩)
 all_goals (cases h<;>(simp only[go_sem,seval,uD, *];exact⟨_,rfl⟩))
end Go.Z
namespace Go.Z
open Go Go.Abs Go.W
def l5:aw→aw
 | .seq a _=>a
 |x=>x
def iD:aw→aw
 | .seq _ b=>b
 |x=>x
def Cx:aw→aw
 | .block _ b=>b
 |x=>x
def P9:aw→aw
 | .rangeFunc _ _ a _=>a
 |x=>x
def JL:aw→aw
 | .rangeFunc _ _ _ b=>b
 |x=>x
theorem qxt {n v h t}(hn:h.length=n)(hv:Abs.below n v=Gh)(hb:zn n h=Gh):jn n v (h++t)=h:=by
 have ht:(h++t).take n=h:=by rw[←hn,List.take_left'];rfl
 unfold jn
 rw[ht,hv,hb]
 cases hc:Nat.ble (h++t).length n with
 |true=>
  have:=Nat.le_of_ble_eq_true hc
  rw[List.length_append,hn]at this
  have:t=[]:=List.eq_nil_of_length_eq_zero (by omega)
  subst this;simp
 |false=>rfl
theorem yd {n v h}(hn:h.length=n):jn n v h=h:=by
 unfold jn
 rw[Nat.ble_eq_true_of_le (by omega)];rfl
section
variable {σ:Type}(r:ak)(u:bg)(H:σ→qi)(step:σ→je→Int→Option σ)
def oT (x:Int×σ):Option ((Int×σ)⊕(Int×σ)):=
 cond (decide (x.1<((u.uses.getD []).length:Int)))
  (qa (qr (u.uses.getD []) x.1) fun s=>qa (f64 r s.k) fun v=>qa (qr (r.au.getD []) v) fun l=>qa (step x.2 l s.n) fun y=>En (.inl (qe .i64 (x.1+1),y)))
  (En (.inr x))
def E7 (x:Int×σ):aY:=⟨[(0,.fn (.yield 1) [] [],I),(2,.ai (aR r),I),(7,sl 2 bp u.uses,I),(8,Lv u.uses,I),(9,Iv x.1,I)],H x.2⟩
def Qa (x:Int×σ):jf×aY:=(.exit 0,⟨[(0,.fn (.yield 1) [] [],I),(2,.ai (aR r),I),(7,sl 2 bp u.uses,I),(8,Lv u.uses,I),(9,Iv x.1,I),(10,.bool I,I)],H x.2⟩)
theorem zdc (hy:∀x l n y,step x l n=En y→kD (X pr) 1 [aL l,Iv n] (H x)=En (.bool Gh,H y))(hl:∀x,(H x).length=2)(x:Int×σ)(q)(h:oT r u step x=En q):jw pr JM (E7 r u H) (Qa r u H) x q:=by
 unfold oT at h
 rcases qd h with⟨h1,h⟩|⟨h1,h⟩
 ·obtain⟨s,h2,h⟩:=qb h
  obtain⟨v,h3,h⟩:=qb h
  obtain⟨l,h4,h⟩:=qb h
  obtain⟨y,h5,h⟩:=qb h
  cases h
  have g:=hy _ _ _ _ h5
  have w:=E2 h3
  exact wI (bX:=E7 r u H (qe .i64 (x.1+1),y)) (by simp only[go_sem,seval,JM,E7,h1,zj h2,w,zj h4,g]<;>rfl) (Bb (by show(H y).length≤(H x.2).length;rw[hl,hl];exact Nat.le_refl _))
 ·cases h
  exact qw (by simp only[go_sem,seval,JM,E7,h1,Qa]<;>rfl)
theorem juq {r:ak}{u:bg}{H:σ→qi}{step:σ→je→Int→Option σ}(hy:∀x l n y,step x l n=En y→kD (X pr) 1 [aL l,Iv n] (H x)=En (.bool Gh,H y))(hl:∀x,(H x).length=2){x0 d}(h:bu (oT r u step) (0,x0)=En d):qo pr (X pr) 192 [.fn (.yield 1) [] [],.ai (aU u),.ai (aR r)] (H x0)=En (.aJ [],I,H d.2):=by
 have h1:X pr (.loop JM) (E7 r u H (0,x0))=En (Qa r u H d):=jmm (zdc r u H step hy hl) (fun d=>by intro hh;cases hh) h
 rw[ql (show pr.bO 192=En uE from rfl) (by simp)]
 simp only[E7,Qa]at h1
 simp only[go_sem,seval,uE,h1]<;>rfl
end
def xJ:aw:=Cx (iD (l5 (iD (iD qB.body))))
def uF:aw:=P9 xJ
def qC:aw:=JL xJ
theorem jp9:xJ=.rangeFunc (.tmp 9) [10,11] uF qC:=rfl
def l6 (r:ak)(u:bg):Env:=[(2,.ai (aR r),I),(3,.ai (aU u),I),(5,.ptr 0 0,I),(9,.fn (.func 192) [] [.ai (aU u),.ai (aR r)],I)]
def Cy (o:Option (List je)):qi:=[.cells [(sl 5 jd o,o.isSome)]]
def jS (r:ak)(u:bg)(pd:Option jf)(o:Option (List je)):qi:=[.cells [(sl 5 jd o,o.isSome)],.loop ⟨l6 r u,[10,11],uF,qC,pd⟩]
def Yx (r:ak)(u:bg)(l:je)(n:Int):Env:=(([10,11][1]),Iv n,I)::(([10,11][0]),aL l,I)::l6 r u
def Qb (r:ak)(u:bg)(l:je)(n:Int):Env:=[(2,.ai (aR r),I),(3,.ai (aU u),I),(5,.ptr 0 0,I),(6,.ai (aL l),I)]
theorem zbu {r u l n}:wc (fE (l6 r u)) [10,11] [aL l,Iv n]=En (Yx r u l n):=rfl
theorem jhd {r u l n H}:X pr uF ⟨Yx r u l n,H⟩=En (.normal,⟨Qb r u l n,H⟩):=by
 simp only[go_sem,seval,uF,P9,xJ,Cx,l5,iD,qB,Yx,l6,List.getElem_cons_zero,List.getElem_cons_succ]<;>rfl
def yZ (o:Option (List je))(l:je)(_:Int):Option (Option (List je)):=bB o [l]
theorem jgl {r u l n pd o o'}(ho:yZ o l n=En o'):∃e t,X pr qC ⟨Qb r u l n,jS r u pd o⟩=En (.normal,⟨e,jS r u pd o'++t⟩):=by
 unfold yZ at ho
 have hs:o'.isSome=Gh:=by
  cases o' with
  |some _=>rfl
  |none=>cases o<;>simp[bB,Ef]at ho
 cases o with
 |none=>
  have ap:=fun(b:Nat) (h:qi) (bb:Bool)=>qw8 (b:=b) (h:=h) (bb:=bb) ho rfl
  simp only[go_sem,seval,qC,JL,xJ,Cx,l5,iD,qB,Qb,jS,ap,Option.isSome_none,hs]
  exact⟨_,_,rfl⟩
 |some o=>
  have ap:=fun(b t:Nat) (h:qi) (bb:Bool)=>qxc (b:=b) (t:=t) (h:=h) (bb:=bb) ho
  simp only[go_sem,seval,qC,JL,xJ,Cx,l5,iD,qB,Qb,jS,ap,Option.isSome_some,hs]
  exact⟨_,_,rfl⟩
theorem jdq {r u pd o}:zn 2 (jS r u pd o)=Gh:=by
 simp only[go_sem,seval,jS,zn,pw,pv,mP,l6]<;>rfl
theorem y75 {r u l n o o'}(ho:yZ o l n=En o'):kD (X pr) 1 [aL l,Iv n] (jS r u Gd o)=En (.bool Gh,jS r u Gd o'):=by
 have g:∀o pd t,zg (jS r u pd o++t) 1=En (.loop ⟨l6 r u,[10,11],uF,qC,pd⟩):=fun _ _ _=>rfl
 have g0:∀o pd,zg (jS r u pd o) 1=En (.loop ⟨l6 r u,[10,11],uF,qC,pd⟩):=fun _ _=>rfl
 have st:∀o pd uG t,(jS r u pd o++t).set 1 (.loop ⟨l6 r u,[10,11],uF,qC,uG⟩)=jS r u uG o++t:=fun _ _ _ _=>rfl
 have Yy:∀o pd uG,(jS r u pd o).set 1 (.loop ⟨l6 r u,[10,11],uF,qC,uG⟩)=jS r u uG o:=fun _ _ _=>rfl
 have hl:∀o pd,(jS r u pd o).length=2:=fun _ _=>rfl
 have ha:∀o pd v t,Abs.below 2 v=Gh→jn 2 v (jS r u pd o++t)=jS r u pd o:=fun _ _ _ _ hv=>qxt rfl hv jdq
 obtain⟨e,t,hx⟩:=jgl (r:=r) (u:=u) (n:=n) (pd:=En .normal) ho
 unfold kD
 simp only[g0,zbu,jhd,Gi,cond_true,Yy,hl,hx,g,st]
 rw[ha _ _ _ _ rfl]
theorem jqf {r:ak}{u:bg}{o:Option (List je)}{d}(h:bu (oT r u yZ) (0,o)=En d):X pr xJ ⟨l6 r u,Cy o⟩=En (.normal,⟨l6 r u,Cy d.2⟩):=by
 have h1:=juq (H:=jS r u Gd) (fun x l n y hs=>y75 hs) (fun _=>rfl) h
 have hb:∀o,zn 1 (Cy o)=Gh:=by
  intro o
  simp only[go_sem,seval,Cy,zn,pw,pv]<;>rfl
 rw[jp9,Sy]
 unfold mS
 have hn:(zz uF&&zz qC)=Gh:=rfl
 have he:qh (l6 r u) (.tmp 9)=En (.fn (.func 192) [] [.ai (aU u),.ai (aR r)]):=rfl
 have hl:∀o,(Cy o).length=1:=fun _=>rfl
 have rD:∀o,Cy o++[.loop ⟨l6 r u,[10,11],uF,qC,Gd⟩]=jS r u Gd o:=fun _=>rfl
 have hg:∀o,zg (jS r u Gd o) 1=En (.loop ⟨l6 r u,[10,11],uF,qC,Gd⟩):=fun _=>rfl
 have ht:∀o,(jS r u Gd o).take 1=Cy o:=fun _=>rfl
 simp only[hn,cond_true,he,hl,List.nil_append,List.cons_append,rD,h1,hg,ht,hb]
def Ab:aw:=Cx (iD (l5 (iD (iD jC.body))))
def uH:aw:=P9 Ab
def uI:aw:=JL Ab
theorem jg7:Ab=.rangeFunc (.tmp 11) [12,13] uH uI:=rfl
def l7 (r:ak)(u:bg):Env:=[(2,.ai (aR r),I),(3,.ai (aU u),I),(5,.ai (.map 0),I),(11,.fn (.func 192) [] [.ai (aU u),.ai (aR r)],I)]
def Cz (o:List (List UInt8×Int)):qi:=[.map (kz o)]
def kC (r:ak)(u:bg)(pd:Option jf)(o:List (List UInt8×Int)):qi:=[.map (kz o),.loop ⟨l7 r u,[12,13],uH,uI,pd⟩]
def Yz (r:ak)(u:bg)(l:je)(n:Int):Env:=(([12,13][1]),Iv n,I)::(([12,13][0]),aL l,I)::l7 r u
def YA (r:ak)(u:bg)(l:je)(n:Int):Env:=[(2,.ai (aR r),I),(3,.ai (aU u),I),(5,.ai (.map 0),I),(6,.ai (aL l),I),(7,Iv n,I)]
theorem j3i {r u l n}:wc (fE (l7 r u)) [12,13] [aL l,Iv n]=En (Yz r u l n):=rfl
theorem jcy {r u l n H}:X pr uH ⟨Yz r u l n,H⟩=En (.normal,⟨YA r u l n,H⟩):=by
 simp only[go_sem,seval,uH,P9,Ab,Cx,l5,iD,jC,Yz,l7,List.getElem_cons_zero,List.getElem_cons_succ]<;>rfl
def wO (o:List (List UInt8×Int))(l:je)(n:Int):Option (List (List UInt8×Int)):=LN o l.kind (qe .i64 (mJ o l.kind+n))
theorem jeh {r u l n pd o o'}(ho:wO o l n=En o'):∃e t,X pr uI ⟨YA r u l n,kC r u pd o⟩=En (.normal,⟨e,kC r u pd o'++t⟩):=by
 unfold wO at ho
 simp only[go_sem,seval,uI,JL,Ab,Cx,l5,iD,jC,YA,kC,jmh,jwf ho]
 exact⟨_,_,rfl⟩
theorem q91 {r u pd o}:zn 2 (kC r u pd o)=Gh:=by
 simp only[go_sem,seval,kC,zn,pw,pv,mP,l7]<;>rfl
theorem zc1 {r u l n o o'}(ho:wO o l n=En o'):kD (X pr) 1 [aL l,Iv n] (kC r u Gd o)=En (.bool Gh,kC r u Gd o'):=by
 have g:∀o pd t,zg (kC r u pd o++t) 1=En (.loop ⟨l7 r u,[12,13],uH,uI,pd⟩):=fun _ _ _=>rfl
 have g0:∀o pd,zg (kC r u pd o) 1=En (.loop ⟨l7 r u,[12,13],uH,uI,pd⟩):=fun _ _=>rfl
 have st:∀o pd uG t,(kC r u pd o++t).set 1 (.loop ⟨l7 r u,[12,13],uH,uI,uG⟩)=kC r u uG o++t:=fun _ _ _ _=>rfl
 have Yy:∀o pd uG,(kC r u pd o).set 1 (.loop ⟨l7 r u,[12,13],uH,uI,uG⟩)=kC r u uG o:=fun _ _ _=>rfl
 have hl:∀o pd,(kC r u pd o).length=2:=fun _ _=>rfl
 have ha:∀o pd v t,Abs.below 2 v=Gh→jn 2 v (kC r u pd o++t)=kC r u pd o:=fun _ _ _ _ hv=>qxt rfl hv q91
 obtain⟨e,t,hx⟩:=jeh (r:=r) (u:=u) (n:=n) (pd:=En .normal) ho
 unfold kD
 simp only[g0,j3i,jcy,Gi,cond_true,Yy,hl,hx,g,st]
 rw[ha _ _ _ _ rfl]
theorem jiz {r:ak}{u:bg}{o:List (List UInt8×Int)}{d}(h:bu (oT r u wO) (0,o)=En d):X pr Ab ⟨l7 r u,Cz o⟩=En (.normal,⟨l7 r u,Cz d.2⟩):=by
 have h1:=juq (H:=kC r u Gd) (fun x l n y hs=>zc1 hs) (fun _=>rfl) h
 have hb:∀o,zn 1 (Cz o)=Gh:=by
  intro o
  simp only[go_sem,seval,Cz,zn,pw,pv]<;>rfl
 rw[jg7,Sy]
 unfold mS
 have hn:(zz uH&&zz uI)=Gh:=rfl
 have he:qh (l7 r u) (.tmp 11)=En (.fn (.func 192) [] [.ai (aU u),.ai (aR r)]):=rfl
 have hl:∀o,(Cz o).length=1:=fun _=>rfl
 have rD:∀o,Cz o++[.loop ⟨l7 r u,[12,13],uH,uI,Gd⟩]=kC r u Gd o:=fun _=>rfl
 have hg:∀o,zg (kC r u Gd o) 1=En (.loop ⟨l7 r u,[12,13],uH,uI,Gd⟩):=fun _=>rfl
 have ht:∀o,(kC r u Gd o).take 1=Cz o:=fun _=>rfl
 simp only[hn,cond_true,he,hl,List.nil_append,List.cons_append,rD,h1,hg,ht,hb]
end Go.Z
namespace Go.Z
open Go Go.Abs Go.W
theorem jx8 {hp r u}:qo pr (X pr) 131 [aR r,aU u] hp=En (.fn (.func 192) [] [.ai (aU u),.ai (aR r)],I,hp):=by
 rw[ql (show pr.bO 131=En uJ from rfl) (by simp)]
 simp only[go_sem,seval,uJ]<;>rfl
def HC (r:ak)(u:bg):Option Bool:=
 qa (bu (oT r u wO) (0,[])) fun d=>qa (pQ r u) fun doc=>qa (Hz doc.aB d.2) fun b=>En (!b)
def jfj:aw:=l5 jC.body
def jez:aw:=l5 (iD jC.body)
def je5:aw:=l5 (l5 (iD (iD jC.body)))
def jd1:aw:=iD (iD (iD jC.body))
theorem zks {r u q}(h:HC r u=En q):qc pr (X pr) 133 [aR r,aU u]=En (.bool q,I):=by
 unfold HC at h
 obtain⟨d,h1,h⟩:=qb h
 obtain⟨doc,h2,h⟩:=qb h
 obtain⟨b,h3,h⟩:=qb h
 cases h
 have hx:X pr Ab ⟨l7 r u,[.map []]⟩=En (.normal,⟨l7 r u,[.map (kz d.2)]⟩):=jiz h1
 have w1:=jx8 (hp:=[.map []]) (r:=r) (u:=u)
 have ha:jn 1 (.fn (.func 192) [] [.ai (aU u),.ai (aR r)]) ([.map []]:qi)=[.map []]:=yd rfl
 have w2:qc pr (X pr) 126 [aR r,aU u]=En (aD doc,I):=Nx h2
 have w3:=j7r h3
 have hb:jn 1 (.bool b) ([.map (kz d.2)]:qi)=[.map (kz d.2)]:=yd rfl
 have this:∃hh,qo pr (X pr) 133 [aR r,aU u] []=En (.bool (!b),I,hh):=by
  rw[ql (show pr.bO 133=En ⟨27,.seq jfj (.seq jez (.seq (.seq je5 (.block 0 Ab)) jd1)),[.tmp 4]⟩from rfl) (by simp)]
  simp only[l7]at hx
  simp only[go_sem,seval,jfj,jez,je5,jd1,l5,iD,jC,w1,ha,w2,w3,hb,hx]
  exact⟨_,rfl⟩
 obtain⟨hh,this⟩:=this
 exact zo rfl this (by first|rfl|simp only[go_sem,seval]) (by first|rfl|simp only[go_sem,seval])
def f79 (r:ak)(u:bg):Option Int:=
 qa (bu (oT r u yZ) (0,Gd)) fun d=>qa (f48 u.ar 21) fun e1=>qa (D8 r u) fun lt=>qa (f48 (!decide (u.version=lt)) 32) fun e2=>qa (HC r u) fun c=>qa (f48 (!c) 20) fun e3=>
 qa (f78 r u) fun m=>qa (f48 (decide (0<((m.1.getD []).length:Int))) 31) fun e4=>qa (HE d.2) fun hd=>qa (f48 (decide (0<((hd.1.getD []).length:Int))) 34) fun e5=>f46 (En [e1,e2,e3,e4,e5])
def jmz:aw:=l5 qB.body
def jmn:aw:=l5 (iD qB.body)
def jme:aw:=l5 (l5 (iD (iD qB.body)))
def jm6:aw:=iD (iD (iD qB.body))
theorem W79 {r u q}(h:f79 r u=En q):qc pr (X pr) 79 [aR r,aU u]=En (Iv q,I):=by
 unfold f79 at h
 obtain⟨d,h1,h⟩:=qb h
 obtain⟨e1,g1,h⟩:=qb h
 obtain⟨lt,h2,h⟩:=qb h
 obtain⟨e2,g2,h⟩:=qb h
 obtain⟨c,h3,h⟩:=qb h
 obtain⟨e3,g3,h⟩:=qb h
 obtain⟨m,h4,h⟩:=qb h
 obtain⟨e4,g4,h⟩:=qb h
 obtain⟨hd,h5,h⟩:=qb h
 obtain⟨e5,g5,h⟩:=qb h
 have hx:X pr xJ ⟨l6 r u,[.cells [(Nl,I)]]⟩=En (.normal,⟨l6 r u,[.cells [(sl 5 jd d.2,d.2.isSome)]]⟩):=jqf h1
 have w1:=jx8 (hp:=[.cells [(Nl,I)]]) (r:=r) (u:=u)
 have ha:jn 1 (.fn (.func 192) [] [.ai (aU u),.ai (aR r)]) ([.cells [(Nl,I)]]:qi)=[.cells [(Nl,I)]]:=yd rfl
 have k1:=fK g1
 have w2:qc pr (X pr) 132 [aR r,aU u]=En (Iv lt,I):=jrg h2
 have k2:=fK g2
 have w3:=zks h3
 have k3:=fK g3
 have w4:qc pr (X pr) 78 [aR r,aU u]=En (sl 1 yl m.1,m.2):=W78 h4
 have k4:=fK g4
 have w5:=zf1 h5
 have k5:=fK g5
 have k6:qc pr (X pr) 46 [.list I 1 [Iv e1,Iv e2,Iv e3,Iv e4,Iv e5]]=En (Iv q,I):=lf h
 have this:∃hh,qo pr (X pr) 79 [aR r,aU u] []=En (Iv q,I,hh):=by
  rw[ql (show pr.bO 79=En ⟨44,.seq jmz (.seq jmn (.seq (.seq jme (.block 0 xJ)) jm6)),[.tmp 4]⟩from rfl) (by simp)]
  simp only[l6]at hx
  simp only[go_sem,seval,jmz,jmn,jme,jm6,l5,iD,qB,w1,ha,k1,w2,k2,w3,k3,w4,k4,w5,k5,k6,hx]
  exact⟨_,rfl⟩
 obtain⟨hh,this⟩:=this
 exact zo rfl this (by first|rfl|simp only[go_sem,seval]) (by first|rfl|simp only[go_sem,seval])
end Go.Z
namespace Go.Z
open Go Go.Abs Go.W
def Ia (a1:GEv)(aX:Int)(aV:Option (List je))(aQ:Option (List aC))(aF:Option (List bg)):Option (Int×(Option (List bg))):=
 qa (qr (a1.names.getD []) 0) fun v1=>
 qa (f76 (⟨aX,aV,aQ,aF⟩) v1) fun v3=>
 qa (qr (aF.getD []) v3) fun v5=>
 qa (f79 (⟨aX,aV,aQ,aF⟩) v5) fun v7=>
 cond (decide (v7=0))
  (qa (TV aF v3) fun v10=>
  En (0,v10))
  (En (v7,aF))
theorem zeo {a1 aX aV aQ aF x1 x2 x3 r}(h:Ia a1 aX aV aQ aF=En r):qo pr (X pr) 180 [.ptr 0 0,aE a1] [kR aX aV aQ aF,x1,x2,x3]=En (Iv r.1,I,[kR aX aV aQ r.2,x1,x2,x3]):=by
 unfold Ia at h
 rw[ql (show pr.bO 180=En uK from rfl) (by simp)]
 repeat' first|(replace h:=qb h;obtain⟨d,g,h⟩:=h;with_reducible first|replace g:=zY g|replace g:=W79 g|replace g:=jir g|skip)|(replace h:=qd h;rcases h with⟨g,h⟩|⟨g,h⟩)
 all_goals (cases h<;>(simp only[go_sem,seval,uK,jg, *]<;>rfl))
end Go.Z
namespace Go.Z
open Go Go.Abs Go.W
def Bz (a0:ak)(a1:GEv):Option (Option (Nat)⊕(Nat⊕Nat)):=
 cond (decide (0<(j8 a1.kind).length))
  (cond (decide (((qn (j8 a1.kind) 0).1:Int)=45))
   (En (.inl (En (0+(qn (j8 a1.kind) 0).2))))
   (qa (qr (a1.names.getD []) (0:Int)) fun mN=>
   qa (Er a0 ((qn (j8 a1.kind) 0).1:Int) mN) fun sj=>
   cond sj
    (En (.inl (En (0+(qn (j8 a1.kind) 0).2))))
    (En (.inr (.inl (0+(qn (j8 a1.kind) 0).2))))))
  (En (.inr (.inr 0)))
def wS (a0:ak)(a1:GEv)(s0:Nat):Option (Option (Nat)⊕(Nat⊕Nat)):=
 cond (decide (s0<(j8 a1.kind).length))
  (cond (decide (((qn (j8 a1.kind) s0).1:Int)=45))
   (En (.inl (En (s0+(qn (j8 a1.kind) s0).2))))
   (qa (qr (a1.names.getD []) (s0:Int)) fun zX=>
   qa (Er a0 ((qn (j8 a1.kind) s0).1:Int) zX) fun tf=>
   cond tf
    (En (.inl (En (s0+(qn (j8 a1.kind) s0).2))))
    (En (.inr (.inl (s0+(qn (j8 a1.kind) s0).2))))))
  (En (.inr (.inr s0)))
def Es (a0:ak)(a1:GEv):Option (Nat)→Option (Option (Nat)⊕(Nat⊕Nat))
 |none=>Bz a0 a1
 |some x=>wS a0 a1 x
def YB (a0:ak)(a1:GEv)(s0:Nat):aY:=⟨[(2,.ptr 0 0,I),(3,.ai (aE a1),I),(4,.ptr 1 0,I),(6,.ai (.agg [.str (j8 a1.kind),Iv (ny a1.kind),lS a1.kind]),I),(24,.ptr 3 0,I),(41,.bool I,I)],[.cells [(Iv a0.day,I),(sl 5 jd a0.au,I),(sl 4 qu a0.ae,I),(sl 8 bD a0.units,I)],kZ,.map ja,.iter (j8 a1.kind) s0]⟩
def E8 (a0:ak)(a1:GEv):Option (Nat)→aY
 |none=>⟨[(2,.ptr 0 0,I),(3,.ai (aE a1),I),(4,.ptr 1 0,I),(6,.ai (.agg [.str (j8 a1.kind),Iv (ny a1.kind),lS a1.kind]),I),(24,.ptr 3 0,I)],[.cells [(Iv a0.day,I),(sl 5 jd a0.au,I),(sl 4 qu a0.ae,I),(sl 8 bD a0.units,I)],kZ,.map ja,.iter (j8 a1.kind) 0]⟩
 |some x=>YB a0 a1 x
def E9 (a0:ak)(a1:GEv):Nat⊕Nat→jf×aY
 | .inl d=>(.ret,⟨[(4,.ptr 1 0,I),(5,Iv 10,I)],[.cells [(Iv a0.day,I),(sl 5 jd a0.au,I),(sl 4 qu a0.ae,I),(sl 8 bD a0.units,I)],kZ,.map ja,.iter (j8 a1.kind) d]⟩)
 | .inr d=>(.exit 0,⟨[(2,.ptr 0 0,I),(3,.ai (aE a1),I),(4,.ptr 1 0,I),(6,.ai (.agg [.str (j8 a1.kind),Iv (ny a1.kind),lS a1.kind]),I),(24,.ptr 3 0,I),(25,.aJ [.bool I],I),(26,.bool I,I)],[.cells [(Iv a0.day,I),(sl 5 jd a0.au,I),(sl 4 qu a0.ae,I),(sl 8 bD a0.units,I)],kZ,.map ja,.iter (j8 a1.kind) d]⟩)
theorem jo3 (a0:ak)(a1:GEv)(r)(h:Bz a0 a1=En r):jw pr xK (E8 a0 a1) (E9 a0 a1) Gd r:=by
 unfold Bz at h
 repeat' first|(replace h:=qb h;obtain⟨d,g,h⟩:=h;with_reducible first|replace g:=jwp g|skip)|(replace h:=qd h;rcases h with⟨g,h⟩|⟨g,h⟩)
 all_goals (cases h<;>((first|refine qw ?_|refine jm ?_);simp only[go_sem,seval,xK,E8,YB,LI,jg,E9, *]<;>rfl))
theorem jnw (a0:ak)(a1:GEv)(s0:Nat)(r)(h:wS a0 a1 s0=En r):jw pr xK (E8 a0 a1) (E9 a0 a1) (En s0) r:=by
 unfold wS at h
 repeat' first|(replace h:=qb h;obtain⟨d,g,h⟩:=h;with_reducible first|replace g:=jwp g|skip)|(replace h:=qd h;rcases h with⟨g,h⟩|⟨g,h⟩)
 all_goals (cases h<;>((first|refine qw ?_|refine jm ?_);simp only[go_sem,seval,xK,E8,YB,LI,jg,E9, *]<;>rfl))
theorem jw5 (a0:ak)(a1:GEv):∀(x:Option (Nat)) (r) (h:Es a0 a1 x=En r),jw pr xK (E8 a0 a1) (E9 a0 a1) x r
 |none,r,h=>jo3 a0 a1 r h
 |some x,r,h=>jnw a0 a1 x r h
theorem jd9 (a0:ak)(a1:GEv){s0 d}(h:bu (Es a0 a1) s0=En d):X pr (.loop xK) (E8 a0 a1 s0)=En (E9 a0 a1 d):=zc (jw5 a0 a1) h
def fA (k:Nat)(a0:ak)(a1:GEv):Option (Int×ak):=
 bif Ge k 168 then qa (HZ a1 a0.day a0.au a0.ae a0.units) fun v=>En (v.1,{ a0 with au:=v.2.1 })else
 bif Ge k 169 then qa (f169 a1 a0.day a0.au a0.ae a0.units) fun v=>En (v.1,{ a0 with ae:=v.2.1 })else
 bif Ge k 170 then qa (f170 a1 a0.day a0.au a0.ae a0.units) fun v=>En (v.1,{ a0 with ae:=v.2 })else
 bif Ge k 171 then qa (f171 a1 a0.day a0.au a0.ae a0.units) fun v=>En (v.1,{ a0 with ae:=v.2 })else
 bif Ge k 172 then qa (H6 a1 a0.day a0.au a0.ae a0.units) fun v=>En (v.1,{ a0 with ae:=v.2 })else
 bif Ge k 173 then qa (H0 a1 a0.day a0.au a0.ae a0.units) fun v=>En (v.1,{ a0 with units:=v.2.1 })else
 bif Ge k 175 then qa (Ic a1 a0.day a0.au a0.ae a0.units) fun v=>En (v.1,{ a0 with units:=v.2 })else
 bif Ge k 176 then qa (H9 a1 a0.day a0.au a0.ae a0.units) fun v=>En (v.1,{ a0 with units:=v.2 })else
 bif Ge k 177 then qa (Ih a1 a0.day a0.au a0.ae a0.units) fun v=>En (v.1,{ a0 with units:=v.2 })else
 bif Ge k 178 then qa (H7 a1 a0.day a0.au a0.ae a0.units) fun v=>En (v.1,{ a0 with au:=v.2 })else
 bif Ge k 179 then qa (H8 a1 a0.day a0.au a0.ae a0.units) fun v=>En (v.1,{ a0 with au:=v.2 })else
 bif Ge k 180 then qa (Ia a1 a0.day a0.au a0.ae a0.units) fun v=>En (v.1,{ a0 with units:=v.2 })else
 bif Ge k 181 then qa (Ib a1 a0.day a0.au a0.ae a0.units) fun v=>En (v.1,{ a0 with units:=v.2 })else
 bif Ge k 174 then qa (Ie a1 a0.day a0.au a0.ae a0.units) fun v=>En (v.1,{ a0 with au:=v.2.1,units:=v.2.2 })else Gd
theorem jfy {k a0 a1 x1 x2 x3 v}(h:fA k a0 a1=En v):
  (∃w1 w2 w3:Bool,qo pr (X pr) k [.ptr 0 0,aE a1] [.cells [(Iv a0.day,I),(sl 5 jd a0.au,I),(sl 4 qu a0.ae,I),(sl 8 bD a0.units,I)],x1,x2,x3]=En (Iv v.1,I,[.cells [(Iv v.2.day,I),(sl 5 jd v.2.au,w1),(sl 4 qu v.2.ae,w2),(sl 8 bD v.2.units,w3)],x1,x2,x3])∧v.2.day=a0.day) ∨
  (v.1=0∧v.2.day=a0.day∧∃(n:Nat) (b:bh) (cs:List (AVal×Bool)),qo pr (X pr) k [.ptr 0 0,aE a1] [.cells [(Iv a0.day,I),(sl 5 jd a0.au,I),(sl 4 qu a0.ae,I),(sl 8 bD a0.units,I)],x1,x2,x3]=En (Iv 0,I,[.cells [(Iv v.2.day,I),(sl 5 jd v.2.au,I),(sl 4 qu v.2.ae,I),(.ms 5 0 n,I)],x1,x2,x3,b,.cells cs])∧cs.map (·.1)=j9 bD (v.2.units.getD [])∧n=(v.2.units.getD []).length∧0<n∧v.2.units.isSome=Gh):=by
 unfold fA at h
 rw[Gb]at h
 split at h
 ·rename_i hk
  rw[Ga hk]
  obtain⟨y,hy,h⟩:=qb h
  cases h
  exact .inl ⟨y.2.2,I,I,zib hy,rfl⟩
 rw[Gb]at h
 split at h
 ·rename_i hk
  rw[Ga hk]
  obtain⟨y,hy,h⟩:=qb h
  cases h
  exact .inl ⟨I,y.2.2,I,zfr hy,rfl⟩
 rw[Gb]at h
 split at h
 ·rename_i hk
  rw[Ga hk]
  obtain⟨y,hy,h⟩:=qb h
  cases h
  exact .inl ⟨I,I,I,zke hy,rfl⟩
 rw[Gb]at h
 split at h
 ·rename_i hk
  rw[Ga hk]
  obtain⟨y,hy,h⟩:=qb h
  cases h
  exact .inl ⟨I,I,I,zjm hy,rfl⟩
 rw[Gb]at h
 split at h
 ·rename_i hk
  rw[Ga hk]
  obtain⟨y,hy,h⟩:=qb h
  cases h
  exact .inl ⟨I,I,I,zes hy,rfl⟩
 rw[Gb]at h
 split at h
 ·rename_i hk
  rw[Ga hk]
  obtain⟨y,hy,h⟩:=qb h
  cases h
  exact .inl ⟨I,I,y.2.2,zh7 hy,rfl⟩
 rw[Gb]at h
 split at h
 ·rename_i hk
  rw[Ga hk]
  obtain⟨y,hy,h⟩:=qb h
  cases h
  exact .inl ⟨I,I,I,zd1 hy,rfl⟩
 rw[Gb]at h
 split at h
 ·rename_i hk
  rw[Ga hk]
  obtain⟨y,hy,h⟩:=qb h
  cases h
  exact .inl ⟨I,I,I,zef hy,rfl⟩
 rw[Gb]at h
 split at h
 ·rename_i hk
  rw[Ga hk]
  obtain⟨y,hy,h⟩:=qb h
  cases h
  exact .inl ⟨I,I,I,zc7 hy,rfl⟩
 rw[Gb]at h
 split at h
 ·rename_i hk
  rw[Ga hk]
  obtain⟨y,hy,h⟩:=qb h
  cases h
  exact .inl ⟨I,I,I,zb3 hy,rfl⟩
 rw[Gb]at h
 split at h
 ·rename_i hk
  rw[Ga hk]
  obtain⟨y,hy,h⟩:=qb h
  cases h
  exact .inl ⟨I,I,I,zd2 hy,rfl⟩
 rw[Gb]at h
 split at h
 ·rename_i hk
  rw[Ga hk]
  obtain⟨y,hy,h⟩:=qb h
  cases h
  exact .inl ⟨I,I,I,zeo hy,rfl⟩
 rw[Gb]at h
 split at h
 ·rename_i hk
  rw[Ga hk]
  obtain⟨y,hy,h⟩:=qb h
  cases h
  exact .inl ⟨I,I,I,zjn hy,rfl⟩
 rw[Gb]at h
 split at h
 ·rename_i hk
  rw[Ga hk]
  obtain⟨y,hy,h⟩:=qb h
  cases h
  rcases zct (x1:=x1) (x2:=x2) (x3:=x3) hy with⟨h1,h2,h3⟩|⟨h1,n,b,cs,h2,h3,h4,h5⟩
  ·refine .inl ⟨I,I,I,?_,rfl⟩
   rcases y with⟨y1,y2⟩
   cases h2
   exact h3
  ·refine .inr ⟨h1,rfl,n,b,cs,h2,h3,h4,h5,?_⟩
   show y.2.2.isSome=Gh
   cases hu:y.2.2 with
   |some _=>rfl
   |none=>rw[hu]at h4;simp at h4;omega
 ·cases h
def Ii (x:List UInt8):Nat:=match oR x with
 |some f=>f.2.2.2
 |none=>0
theorem jj6 (x:List UInt8):lS x=fnv (Ii x):=by
 unfold lS Ii
 cases oR x<;>rfl
theorem ji6 {k a0 a1 v}(h:fA k a0 a1=En v):fnv k=.fn (.func k) [] []:=by
 cases hk:Ge k 0 with
 |false=>simp only[fnv,hk,cond_false]
 |true=>rw[Ga hk]at h;cases h
def jQ (a0:ak)(a1:GEv):Option (ak×Int):=
 qa (qr (a1.values.getD []) 0) fun v1=>
 cond (decide (v1<a0.day))
  (En (⟨0,Gd,Gd,Gd⟩,20))
  (qa (bu (Es a0 a1) Gd) fun d48=>match d48 with
   | .inl d50=>
    En (⟨0,Gd,Gd,Gd⟩,10)
   | .inr d51=>
    qa (fA (Ii a1.kind) a0 a1) fun v=>
    cond (decide (v.1=0))
     (En ({ v.2 with day:=v1 },0))
     (En (⟨0,Gd,Gd,Gd⟩,v.1)))
theorem NF {a0 a1 r}(h:jQ a0 a1=En r):qc pr (X pr) 113 [aR a0,aE a1]=En (.aJ [aR r.1,Iv r.2],I):=by
 unfold jQ at h
 obtain⟨v1,h2,h⟩:=qb h
 rcases qd h with⟨h3,h⟩|⟨h3,h⟩
 ·have hr:(⟨0,Gd,Gd,Gd⟩,20)=r:=En.inj h
  subst hr
  have this:∃hh,qo pr (X pr) 113 [aR a0,aE a1] []=En (.aJ [aZ,Iv 20],I,hh):=by
   rw[ql (show pr.bO 113=En gW from rfl) (by simp)]
   simp only[go_sem,seval,gW,zj h2,h3]
   exact⟨_,rfl⟩
  obtain⟨hh,this⟩:=this
  exact zo rfl this (by first|rfl|simp only[go_sem,seval]) (by first|rfl|simp only[go_sem,seval])
 ·obtain⟨d48,Qc,h⟩:=qb h
  rcases d48 with d50|d51
  ·have pq:X pr (.loop xK) ⟨[(2,.ptr 0 0,I),(3,.ai (aE a1),I),(4,.ptr 1 0,I),(6,.ai (.agg [.str (j8 a1.kind),Iv (ny a1.kind),lS a1.kind]),I),(24,.ptr 3 0,I)],[kR a0.day a0.au a0.ae a0.units,kZ,.map ja,.iter (j8 a1.kind) 0]⟩=En (.ret,⟨[(4,.ptr 1 0,I),(5,Iv 10,I)],[kR a0.day a0.au a0.ae a0.units,kZ,.map ja,.iter (j8 a1.kind) d50]⟩):=jd9 a0 a1 Qc
   have hr:(⟨0,Gd,Gd,Gd⟩,10)=r:=En.inj h
   subst hr
   have this:∃hh,qo pr (X pr) 113 [aR a0,aE a1] []=En (.aJ [aZ,Iv 10],I,hh):=by
    rw[ql (show pr.bO 113=En gW from rfl) (by simp)]
    simp only[go_sem,seval,gW,zj h2,h3,LM,pq]
    exact⟨_,rfl⟩
   obtain⟨hh,this⟩:=this
   exact zo rfl this (by first|rfl|simp only[go_sem,seval]) (by first|rfl|simp only[go_sem,seval])
  ·have pq:X pr (.loop xK) ⟨[(2,.ptr 0 0,I),(3,.ai (aE a1),I),(4,.ptr 1 0,I),(6,.ai (.agg [.str (j8 a1.kind),Iv (ny a1.kind),lS a1.kind]),I),(24,.ptr 3 0,I)],[kR a0.day a0.au a0.ae a0.units,kZ,.map ja,.iter (j8 a1.kind) 0]⟩=En (.exit 0,⟨[(2,.ptr 0 0,I),(3,.ai (aE a1),I),(4,.ptr 1 0,I),(6,.ai (.agg [.str (j8 a1.kind),Iv (ny a1.kind),lS a1.kind]),I),(24,.ptr 3 0,I),(25,.aJ [.bool I],I),(26,.bool I,I)],[kR a0.day a0.au a0.ae a0.units,kZ,.map ja,.iter (j8 a1.kind) d51]⟩):=jd9 a0 a1 Qc
   obtain⟨v,hv,h⟩:=qb h
   have hfn:lS a1.kind=.fn (.func (Ii a1.kind)) [] []:=by rw[jj6];exact ji6 hv
   simp only[hfn]at pq
   have af:∀(n:Int) (b:bh),jn 4 (Iv n) [b,kZ,.map ja,.iter (j8 a1.kind) d51]=[b,kZ,.map ja,.iter (j8 a1.kind) d51]:=fun _ _=>yd rfl
   rcases jfy (x1:=kZ) (x2:=.map ja) (x3:=.iter (j8 a1.kind) d51) hv with⟨w1,w2,w3,g,hd⟩|⟨h0,hd,n,b,cs,g,g2,hn,gN,hs⟩
   ·rcases qd h with⟨h5,h⟩|⟨h5,h⟩
    ·cases h
     have this:∃hh,qo pr (X pr) 113 [aR a0,aE a1] []=En (.aJ [aG v1 v.2.au v.2.ae v.2.units,Iv 0],I,hh):=by
      rw[ql (show pr.bO 113=En gW from rfl) (by simp)]
      simp only[go_sem,seval,gW,zj h2,h3,LM,pq,hfn,g,af,h5]
      exact⟨_,rfl⟩
     obtain⟨hh,this⟩:=this
     exact zo rfl this (by first|rfl|simp only[go_sem,seval]) (by first|rfl|simp only[go_sem,seval])
    ·cases h
     have this:∃hh,qo pr (X pr) 113 [aR a0,aE a1] []=En (.aJ [aZ,Iv v.1],I,hh):=by
      rw[ql (show pr.bO 113=En gW from rfl) (by simp)]
      simp only[go_sem,seval,gW,zj h2,h3,LM,pq,hfn,g,af,h5]
      exact⟨_,rfl⟩
     obtain⟨hh,this⟩:=this
     exact zo rfl this (by first|rfl|simp only[go_sem,seval]) (by first|rfl|simp only[go_sem,seval])
   ·have h5:decide (v.1=0)=Gh:=decide_eq_true h0
    rw[h5]at h
    cases h
    have ab:∀(n:Int) (c:bh),jn 4 (Iv n) [c,kZ,.map ja,.iter (j8 a1.kind) d51,b,.cells cs]=(bif pw 4 c&&zn 4 [kZ,.map ja,.iter (j8 a1.kind) d51]then [c,kZ,.map ja,.iter (j8 a1.kind) d51]else [c,kZ,.map ja,.iter (j8 a1.kind) d51,b,.cells cs]):=fun _ _=>rfl
    have this:qo pr (X pr) 113 [aR a0,aE a1] []=En (.aJ [.agg [Iv v1,sl 5 jd v.2.au,sl 4 qu v.2.ae,.ms 5 0 n],Iv 0],I,[.cells [(Iv v1,I),(sl 5 jd v.2.au,I),(sl 4 qu v.2.ae,I),(.ms 5 0 n,I)],.cells [(Iv v1,I),(sl 5 jd v.2.au,I),(sl 4 qu v.2.ae,I),(.ms 5 0 n,I)],.map ja,.iter (j8 a1.kind) d51,b,.cells cs]):=by
     rw[ql (show pr.bO 113=En gW from rfl) (by simp)]
     simp only[go_sem,seval,gW,zj h2,h3,LM,pq,hfn,g,(show ∀n,below 4 (.ms 5 0 n)=I from fun _=>rfl),Bool.false_and,Bool.and_false,cond_false]<;>rfl
    have fz:yq [.cells [(Iv v1,I),(sl 5 jd v.2.au,I),(sl 4 qu v.2.ae,I),(.ms 5 0 n,I)],.cells [(Iv v1,I),(sl 5 jd v.2.au,I),(sl 4 qu v.2.ae,I),(.ms 5 0 n,I)],.map ja,.iter (j8 a1.kind) d51,b,.cells cs] (.ms 5 0 n)=En (sl 8 bD v.2.units):=by
     have hu:v.2.units=En (v.2.units.getD []):=by cases hq:v.2.units with
      |some _=>rfl
      |none=>rw[hq]at hs;cases hs
     rw[hn]at gN ⊢
     rw[hu]
     exact vR ez gN g2
    refine zo rfl this (v':=.aJ [aG v1 v.2.au v.2.ae v.2.units,Iv 0]) ?_ (by first|rfl|simp only[go_sem,seval])
    simp only[go_sem,seval,fz]<;>rfl
end Go.Z
end
