/- Chapter 10. -/
import Derived.Test.YtimdocpnkimlfaaGreatDoorV0
set_option linter.unusedVariables false
set_option linter.unusedSimpArgs false
set_option maxRecDepth 100000
set_option maxHeartbeats 4000000
noncomputable section
open Bool renaming false→I,cond_eq_ite→E9,true→Ge
open Option renaming some→En,none→Ga,isNone_none→Gf
open Nat renaming eq_of_beq_eq_true→Es,beq→Gd
namespace Go.Z
open Go Go.Abs Go.W
def Ek (a0:ar)(a1:GEv):Option (ar×Int):=
 qa (qq (a1.names.getD []) 0) fun v1=>
 qa (wC a0 v1) fun v3=>
 cond (decide (v3<0))
  (En (a0,10))
  (qa (qq (a0.au.getD []) v3) fun v6=>
  cond (decide (a1.kind=([104,111,108,100]:List UInt8)))
   (cond v6.held
    (En (a0,34))
    (cond (decide (a1.kind=([102,114,101,101]:List UInt8)))
     (En (a0,20))
     (qa (yW a0 v3 (⟨v6.name,v6.kind,v6.count,v6.left,Ge⟩)) fun v11=>
     En (v11,0))))
   (cond (decide (a1.kind=([102,114,101,101]:List UInt8)))
    (cond v6.held
     (qa (yW a0 v3 (⟨v6.name,v6.kind,v6.count,v6.left,I⟩)) fun fk=>
     En (fk,0))
     (En (a0,20)))
    (qa (yW a0 v3 (⟨v6.name,v6.kind,v6.count,v6.left,I⟩)) fun eN=>
    En (eN,0))))
theorem zhm {a0 a1 r}(h:Ek a0 a1=En r):qc pr (X pr) 201 [aR a0,aE a1]=En (.aI [aR r.1,Iv r.2],I):=by
 unfold Ek at h
 refine zd ui ?_
 repeat' first|(replace h:=qb h;obtain⟨d,g,h⟩:=h;with_reducible first|replace g:=Jm g|replace g:=jud g|skip)|(replace h:=qd h;rcases h with⟨g,h⟩|⟨g,h⟩)
 all_goals (cases h<;>(simp only[go_sem,seval,ui,jg, *];exact⟨_,rfl⟩))
def yY (a0:ar)(a1:GEv):Option (ar×Int):=
 qa (qq (a1.names.getD []) 0) fun v1=>
 qa (wD a0 v1) fun v3=>
 cond (decide (v3<0))
  (En (a0,10))
  (qa (qq (a0.ae.getD []) v3) fun v6=>
  cond (decide (a1.kind=([110,101,101,100]:List UInt8)))
   (qa (qq (a1.values.getD []) 1) fun v9=>
   cond (decide (10000<v9))
    (En (a0,3))
    (qa (qq (a1.names.getD []) 1) fun v12=>
    qa (HQ v6.dn (⟨v12,v9⟩)) fun ei=>
    cond ei.2
     (cond (decide (16<((ei.1.getD []).length:Int)))
      (En (a0,5))
      (qa (yX a0 v3 (⟨v6.name,ei.1,v6.dt,v6.aM⟩)) fun gQ=>
      En (gQ,0)))
     (cond (decide (16<((ei.1.getD []).length:Int)))
      (En (a0,5))
      (qa (yX a0 v3 (⟨v6.name,ei.1,v6.dt,v6.aM⟩)) fun v21=>
      En (v21,0)))))
   (cond (decide (a1.kind=([116,101,115,116]:List UInt8)))
    (qa (qq (a1.values.getD []) 2) fun v24=>
    qa (qq (a1.values.getD []) 1) fun v26=>
    cond (decide (v24<v26))
     (En (a0,11))
     (qa (qq (a1.names.getD []) 1) fun hO=>
     qa (f260 v6.dt (⟨hO,v26,v24⟩)) fun v31=>
     cond v31.2
      (cond (decide (16<((v31.1.getD []).length:Int)))
       (En (a0,5))
       (qa (yX a0 v3 (⟨v6.name,v6.dn,v31.1,v6.aM⟩)) fun wU=>
       En (wU,0)))
      (cond (decide (16<((v31.1.getD []).length:Int)))
       (En (a0,5))
       (qa (yX a0 v3 (⟨v6.name,v6.dn,v31.1,v6.aM⟩)) fun oX=>
       En (oX,0)))))
    (cond (decide (((v6.dn.getD []).length:Int)=0))
     (En (a0,12))
     (cond (decide (100≤((v6.aM.getD []).length:Int)))
      (En (a0,5))
      (qa (bq (En []) (v6.aM.getD [])) fun B2=>
      qa (bq B2 [⟨v6.dn,v6.dt⟩]) fun nG=>
      qa (yX a0 v3 (⟨v6.name,v6.dn,v6.dt,nG⟩)) fun v46=>
      En (v46,0))))))
theorem zgv {a0 a1 r}(h:yY a0 a1=En r):qc pr (X pr) 200 [aR a0,aE a1]=En (.aI [aR r.1,Iv r.2],I):=by
 unfold yY at h
 refine zd xq ?_
 repeat' first|(replace h:=qb h;obtain⟨d,g,h⟩:=h;with_reducible first|replace g:=Nh g|replace g:=zca g|replace g:=zhr g|replace g:=zcu g|replace g:=S8 g|skip)|(replace h:=qd h;rcases h with⟨g,h⟩|⟨g,h⟩)
 all_goals (cases h<;>(simp only[go_sem,seval,xq,jg,kc, *];exact⟨_,rfl⟩))
def yZ (a0:ar)(a1:Int)(a2:GEv)(v1:bh)(v5:Int)(v8:jc)(fk:aY)(s0:Bool×Int):Option ((Bool×Int)⊕((Bool×Int))):=
 cond (decide (s0.2<((fk.aB.getD []).length:Int)))
  (cond s0.1
   (En (.inl (Ge,qe .i64 (s0.2+1))))
   (qa (qq (fk.aB.getD []) s0.2) fun v26=>
   En (.inl (decide (v26.k=v8.kind),qe .i64 (s0.2+1)))))
  (En (.inr (s0.1,s0.2)))
def PD (a0:ar)(a1:Int)(a2:GEv)(v1:bh)(v5:Int)(v8:jc)(fk:aY)(s0:Bool×Int):bf:=⟨[(1,Iv a1,I),(3,.ai (aR a0),I),(5,.ai (aE a2),I),(6,.ptr 0 0,I),(8,.ptr 1 0,I),(9,Iv v5,I),(10,.ptr 2 0,I),(11,.ai (aD fk),I),(12,.bool s0.1,I),(13,Iv s0.2,I)],[kZ,.cells [(.str v1.name,I),(.str v1.product,I),(Iv v1.version,I),(sl 2 bp v1.uses,I),(sl 3 q9 v1.results,I),(.str v1.partner,I),(.bool I,I),(Iv v1.ah,I)],.cells [(.str v8.name,I),(.str v8.kind,I),(Iv v8.count,I),(Iv v8.left,I),(.bool I,I)]]⟩
def PE (a0:ar)(a1:Int)(a2:GEv)(v1:bh)(v5:Int)(v8:jc)(fk:aY)(d:(Bool×Int)):je×bf:=(.exit 0,⟨[(1,Iv a1,I),(3,.ai (aR a0),I),(5,.ai (aE a2),I),(6,.ptr 0 0,I),(8,.ptr 1 0,I),(9,Iv v5,I),(10,.ptr 2 0,I),(11,.ai (aD fk),I),(12,.bool d.1,I),(13,Iv d.2,I),(52,.bool I,I)],[kZ,.cells [(.str v1.name,I),(.str v1.product,I),(Iv v1.version,I),(sl 2 bp v1.uses,I),(sl 3 q9 v1.results,I),(.str v1.partner,I),(.bool I,I),(Iv v1.ah,I)],.cells [(.str v8.name,I),(.str v8.kind,I),(Iv v8.count,I),(Iv v8.left,I),(.bool I,I)]]⟩)
theorem jtv (a0:ar)(a1:Int)(a2:GEv)(v1:bh)(v5:Int)(v8:jc)(fk:aY)(s0:Bool×Int)(r)(h:yZ a0 a1 a2 v1 v5 v8 fk s0=En r):jw pr PF (PD a0 a1 a2 v1 v5 v8 fk) (PE a0 a1 a2 v1 v5 v8 fk) s0 r:=by
 unfold yZ at h
 repeat' first|(replace h:=qb h;obtain⟨d,g,h⟩:=h)|(replace h:=qd h;rcases h with⟨g,h⟩|⟨g,h⟩)
 all_goals (cases h<;>((first|refine qx ?_|refine jq ?_);simp only[go_sem,seval,PF,PD,jg,PE, *]<;>rfl))
theorem jub (a0:ar)(a1:Int)(a2:GEv)(v1:bh)(v5:Int)(v8:jc)(fk:aY){s0 d}(h:bB (yZ a0 a1 a2 v1 v5 v8 fk) s0=En d):X pr (.loop PF) (PD a0 a1 a2 v1 v5 v8 fk s0)=En (PE a0 a1 a2 v1 v5 v8 fk d):=ze (jtv a0 a1 a2 v1 v5 v8 fk) h
def f263 (a0:ar)(a1:Int)(a2:GEv):Option (ar×Int):=
 qa (qq (a0.units.getD []) a1) fun v1=>
 qa (qq (a2.names.getD []) 1) fun v3=>
 qa (wC a0 v3) fun v5=>
 cond (decide (v5<0))
  (En (a0,10))
  (qa (qq (a0.au.getD []) v5) fun v8=>
  cond v1.aq
   (En (a0,21))
   (qa (qq (a2.values.getD []) 1) fun v11=>
   cond (decide (v11=0))
    (En (a0,3))
    (cond v8.held
     (En (a0,34))
     (qa (pL a0 (⟨v1.name,v1.product,v1.version,v1.uses,v1.results,v1.partner,I,v1.ah⟩)) fun fk=>
     qa (bB (yZ a0 a1 a2 v1 v5 v8 fk) (I,0)) fun d28=>
     cond d28.1
      (cond (decide (v8.left<v11))
       (En (a0,4))
       (qa (HR v1.uses v8.name v11) fun lF=>
       cond lF.2
        (qa (yW a0 v5 (⟨v8.name,v8.kind,v8.count,qe .i64 (v8.left-v11),I⟩)) fun wU=>
        qa (f267 wU a1 (⟨v1.name,v1.product,v1.version,lF.1,v1.results,v1.partner,I,v1.ah⟩)) fun v37=>
        En (v37,0))
        (qa (yW a0 v5 (⟨v8.name,v8.kind,v8.count,qe .i64 (v8.left-v11),I⟩)) fun Yq=>
        qa (f267 Yq a1 (⟨v1.name,v1.product,v1.version,lF.1,v1.results,v1.partner,I,v1.ah⟩)) fun wW=>
        En (wW,0))))
      (En (a0,7))))))
theorem zb4 {a0 a1 a2 r}(h:f263 a0 a1 a2=En r):qc pr (X pr) 263 [aR a0,Iv a1,aE a2]=En (.aI [aR r.1,Iv r.2],I):=by
 unfold f263 at h
 refine zd uj ?_
 repeat' first|(replace h:=qb h;obtain⟨d,g,h⟩:=h;with_reducible first|replace g:=Jm g|replace g:=N1 g|replace g:=zbf g|replace g:=jud g|replace g:=X6 g|(replace g:=jub a0 a1 a2 _ _ _ _ g;dsimp only[PD,PE,zg]at g h)|skip)|(replace h:=qd h;rcases h with⟨g,h⟩|⟨g,h⟩)
 all_goals (cases h<;>(simp only[go_sem,seval,uj,jg, *];exact⟨_,rfl⟩))
def f264 (a0:ar)(a1:Int)(a2:GEv):Option (ar×Int):=
 qa (qq (a0.units.getD []) a1) fun v1=>
 qa (qq (a2.names.getD []) 1) fun v3=>
 qa (Ba a0 v3) fun v5=>
 cond (decide (v5<0))
  (En (a0,10))
  (qa (qq (a0.units.getD []) v5) fun v8=>
  cond (decide (v5=a1))
   (En (a0,9))
   (cond (decide (v1.product=v8.product))
    (cond (decide (v1.version=v8.version))
     (cond v1.aq
      (En (a0,21))
      (cond v8.aq
       (En (a0,21))
       (cond (decide (v1.partner=[]))
        (cond (decide (v8.partner=[]))
         (qa (f267 a0 a1 (⟨v1.name,v1.product,v1.version,v1.uses,v1.results,v8.name,I,v1.ah⟩)) fun eN=>
         qa (f267 eN v5 (⟨v8.name,v8.product,v8.version,v8.uses,v8.results,v1.name,I,v8.ah⟩)) fun iW=>
         En (iW,0))
         (En (a0,35)))
        (En (a0,35)))))
     (En (a0,30)))
    (En (a0,30))))
theorem zbg {a0 a1 a2 r}(h:f264 a0 a1 a2=En r):qc pr (X pr) 264 [aR a0,Iv a1,aE a2]=En (.aI [aR r.1,Iv r.2],I):=by
 unfold f264 at h
 refine zd uk ?_
 repeat' first|(replace h:=qb h;obtain⟨d,g,h⟩:=h;with_reducible first|replace g:=X8 g|replace g:=X6 g|skip)|(replace h:=qd h;rcases h with⟨g,h⟩|⟨g,h⟩)
 all_goals (cases h<;>(simp only[go_sem,seval,uk,jg, *];exact⟨_,rfl⟩))
def zA (a0:ar)(a1:GEv)(v3:Int)(v6:bh)(dU:aY)(s0:Bool×Int):Option ((Bool×Int)⊕((Bool×Int))):=
 cond (decide (s0.2<((dU.aA.getD []).length:Int)))
  (cond s0.1
   (En (.inl (Ge,qe .i64 (s0.2+1))))
   (qa (qq (dU.aA.getD []) s0.2) fun v31=>
   qa (qq (a1.names.getD []) 1) fun wZ=>
   En (.inl (decide (v31.k=wZ),qe .i64 (s0.2+1)))))
  (En (.inr (s0.1,s0.2)))
def PG (a0:ar)(a1:GEv)(v3:Int)(v6:bh)(dU:aY)(s0:Bool×Int):bf:=⟨[(2,.ai (aR a0),I),(3,.ai (aE a1),I),(4,.ptr 0 0,I),(6,Iv v3,I),(7,.ptr 1 0,I),(8,.ai (aD dU),I),(9,.bool s0.1,I),(10,Iv s0.2,I)],[kZ,.cells [(.str v6.name,I),(.str v6.product,I),(Iv v6.version,I),(sl 2 bp v6.uses,I),(sl 3 q9 v6.results,I),(.str v6.partner,I),(.bool I,I),(Iv v6.ah,I)]]⟩
def PH (a0:ar)(a1:GEv)(v3:Int)(v6:bh)(dU:aY)(d:(Bool×Int)):je×bf:=(.exit 1,⟨[(2,.ai (aR a0),I),(3,.ai (aE a1),I),(4,.ptr 0 0,I),(6,Iv v3,I),(7,.ptr 1 0,I),(8,.ai (aD dU),I),(9,.bool d.1,I),(10,Iv d.2,I),(64,.bool I,I)],[kZ,.cells [(.str v6.name,I),(.str v6.product,I),(Iv v6.version,I),(sl 2 bp v6.uses,I),(sl 3 q9 v6.results,I),(.str v6.partner,I),(.bool I,I),(Iv v6.ah,I)]]⟩)
theorem jut (a0:ar)(a1:GEv)(v3:Int)(v6:bh)(dU:aY)(s0:Bool×Int)(r)(h:zA a0 a1 v3 v6 dU s0=En r):jw pr PI (PG a0 a1 v3 v6 dU) (PH a0 a1 v3 v6 dU) s0 r:=by
 unfold zA at h
 repeat' first|(replace h:=qb h;obtain⟨d,g,h⟩:=h)|(replace h:=qd h;rcases h with⟨g,h⟩|⟨g,h⟩)
 all_goals (cases h<;>((first|refine qx ?_|refine jq ?_);simp only[go_sem,seval,PI,PG,jg,PH, *]<;>rfl))
theorem jsp (a0:ar)(a1:GEv)(v3:Int)(v6:bh)(dU:aY){s0 d}(h:bB (zA a0 a1 v3 v6 dU) s0=En d):X pr (.loop PI) (PG a0 a1 v3 v6 dU s0)=En (PH a0 a1 v3 v6 dU d):=ze (jut a0 a1 v3 v6 dU) h
def Em (a0:ar)(a1:GEv):Option (ar×Int):=
 qa (qq (a1.names.getD []) 0) fun v1=>
 qa (Ba a0 v1) fun v3=>
 cond (decide (v3<0))
  (En (a0,10))
  (qa (qq (a0.units.getD []) v3) fun v6=>
  cond (decide (a1.kind=([117,115,101]:List UInt8)))
   (qa (f263 a0 v3 a1) fun v9=>
   En (v9.1,v9.2))
   (cond (decide (a1.kind=([112,97,105,114]:List UInt8)))
    (qa (f264 a0 v3 a1) fun v12=>
    En (v12.1,v12.2))
    (cond (decide (a1.kind=([109,101,97,115,117,114,101]:List UInt8)))
     (cond v6.aq
      (En (a0,21))
      (qa (pL a0 (⟨v6.name,v6.product,v6.version,v6.uses,v6.results,v6.partner,I,v6.ah⟩)) fun dU=>
      qa (bB (zA a0 a1 v3 v6 dU) (I,0)) fun d35=>
      cond d35.1
       (cond (decide (64≤((v6.results.getD []).length:Int)))
        (En (a0,5))
        (qa (bq (En []) (v6.results.getD [])) fun Yq=>
        qa (qq (a1.names.getD []) 1) fun wW=>
        qa (qq (a1.values.getD []) 1) fun pV=>
        qa (bq Yq [⟨wW,v6.version,pV⟩]) fun zP=>
        qa (f267 a0 v3 (⟨v6.name,v6.product,v6.version,v6.uses,zP,v6.partner,I,v6.ah⟩)) fun Xy=>
        En (Xy,0)))
       (En (a0,7))))
     (cond (decide (a1.kind=([117,112,100,97,116,101]:List UInt8)))
      (cond v6.aq
       (En (a0,21))
       (qa (D3 a0 (⟨v6.name,v6.product,v6.version,v6.uses,v6.results,v6.partner,I,v6.ah⟩)) fun v51=>
       cond (decide (v6.version=v51))
        (En (a0,32))
        (qa (f267 a0 v3 (⟨v6.name,v6.product,v51,v6.uses,v6.results,v6.partner,I,v6.ah⟩)) fun ES=>
        En (ES,0))))
      (cond (decide (a1.kind=([115,104,105,112]:List UInt8)))
       (qa (f266 a0 v6) fun Nk=>
       cond (decide (Nk=0))
        (qa (f267 a0 v3 (⟨v6.name,v6.product,v6.version,v6.uses,v6.results,v6.partner,Ge,v6.ah⟩)) fun MH=>
        En (MH,0))
        (En (a0,Nk)))
       (cond v6.aq
        (qa (f267 a0 v3 (⟨v6.name,v6.product,v6.version,v6.uses,v6.results,v6.partner,Ge,qe .i64 (v6.ah+1)⟩)) fun v63=>
        En (v63,0))
        (En (a0,20))))))))
theorem zfz {a0 a1 r}(h:Em a0 a1=En r):qc pr (X pr) 202 [aR a0,aE a1]=En (.aI [aR r.1,Iv r.2],I):=by
 unfold Em at h
 refine zd xr ?_
 repeat' first|(replace h:=qb h;obtain⟨d,g,h⟩:=h;with_reducible first|replace g:=X8 g|replace g:=zb4 g|replace g:=zbg g|replace g:=N1 g|replace g:=X6 g|replace g:=jsa g|replace g:=zbi g|replace g:=yG g|(replace g:=jsp a0 a1 _ _ _ g;dsimp only[PG,PH,zg]at g h)|skip)|(replace h:=qd h;rcases h with⟨g,h⟩|⟨g,h⟩)
 all_goals (cases h<;>(simp only[go_sem,seval,xr,jg,kc, *];exact⟨_,rfl⟩))
def Ig (a0:ar)(a1:GEv):Option (ar×Int):=
 qa (qq (a1.values.getD []) 0) fun v1=>
 cond (decide (v1<a0.day))
  (En (a0,20))
  (cond (decide (a1.kind=([108,111,116]:List UInt8)))
   (qa (rM a0 a1) fun v5=>
   En (⟨v1,v5.1.au,v5.1.ae,v5.1.units⟩,v5.2))
   (cond (decide (a1.kind=([112,114,111,100,117,99,116]:List UInt8)))
    (qa (rM a0 a1) fun v8=>
    En (⟨v1,v8.1.au,v8.1.ae,v8.1.units⟩,v8.2))
    (cond (decide (a1.kind=([98,117,105,108,100]:List UInt8)))
     (qa (rM a0 a1) fun v11=>
     En (⟨v1,v11.1.au,v11.1.ae,v11.1.units⟩,v11.2))
     (cond (decide (a1.kind=([110,101,101,100]:List UInt8)))
      (qa (yY a0 a1) fun ei=>
      En (⟨v1,ei.1.au,ei.1.ae,ei.1.units⟩,ei.2))
      (cond (decide (a1.kind=([116,101,115,116]:List UInt8)))
       (qa (yY a0 a1) fun eN=>
       En (⟨v1,eN.1.au,eN.1.ae,eN.1.units⟩,eN.2))
       (cond (decide (a1.kind=([105,115,115,117,101]:List UInt8)))
        (qa (yY a0 a1) fun v20=>
        En (⟨v1,v20.1.au,v20.1.ae,v20.1.units⟩,v20.2))
        (cond (decide (a1.kind=([104,111,108,100]:List UInt8)))
         (qa (Ek a0 a1) fun v23=>
         En (⟨v1,v23.1.au,v23.1.ae,v23.1.units⟩,v23.2))
         (cond (decide (a1.kind=([102,114,101,101]:List UInt8)))
          (qa (Ek a0 a1) fun v26=>
          En (⟨v1,v26.1.au,v26.1.ae,v26.1.units⟩,v26.2))
          (qa (Em a0 a1) fun v28=>
          En (⟨v1,v28.1.au,v28.1.ae,v28.1.units⟩,v28.2))))))))))
theorem ze2 {a0 a1 r}(h:Ig a0 a1=En r):qc pr (X pr) 145 [aR a0,aE a1]=En (.aI [aR r.1,Iv r.2],I):=by
 unfold Ig at h
 refine zd xt ?_
 repeat' first|(replace h:=qb h;obtain⟨d,g,h⟩:=h;with_reducible first|replace g:=zgk g|replace g:=zgv g|replace g:=zhm g|replace g:=zfz g|skip)|(replace h:=qd h;rcases h with⟨g,h⟩|⟨g,h⟩)
 all_goals (cases h<;>(simp only[go_sem,seval,xt,jg, *];exact⟨_,rfl⟩))
end Go.Z
namespace Go.Z
open Go Go.Abs Go.W
def f47 (a0:GEv):Option Int:=
 qa (f60 a0.number 1 1000) fun v1=>
 qa (f48 (!(DY a0.kind)) 13) fun v3=>
 qa (f48 (!(decide (((a0.names.getD []).length:Int)=((j6 a0.kind).length:Int))&&decide (((a0.values.getD []).length:Int)=(nB a0.kind)))) 2) fun v5=>
 qa (f46 (En [v1,v3,v5])) fun v7=>
 cond (decide (v7=0))
  (qa (Ij a0.names) fun v10=>
  qa (Il a0.values) fun v12=>
  qa (f46 v10.1) fun ei=>
  qa (f46 v12.1) fun dU=>
  qa (f48 (!decide (a0.text=[])) 1) fun gQ=>
  qa (f46 (En [ei,dU,gQ])) fun v20=>
  En v20)
  (En v7)
theorem Yj {a0 r}(h:f47 a0=En r):qc pr (X pr) 47 [aE a0]=En (Iv r,I):=by
 unfold f47 at h
 refine zd JD ?_
 repeat' first|(replace h:=qb h;obtain⟨d,g,h⟩:=h; (with_reducible first|replace g:=Ni g|replace g:=eO g|replace g:=iZ g|replace g:=zh9 g|replace g:=zdo g|skip);try dsimp only[zg,l3,List.map,zy,yf,jd,qu,bI,jf,vev,bp,q9,yb,aE,aR,aU,aL,aP,aD]at g)|(replace h:=qd h;rcases h with⟨g,h⟩|⟨g,h⟩)
 all_goals (cases h<;>(simp only[go_sem,seval,JD,jox, *];exact⟨_,rfl⟩))
end Go.Z
namespace Go.Z
open Go Go.Abs Go.W
def oW (a0:Option (List GEv))(s0:(Option (List GEv))×(Option (List ar))×Int×Bool×Bool):Option (((Option (List GEv))×(Option (List ar))×Int×Bool×Bool)⊕((Int×Int×Int×(Option (List jc))×(Option (List aC))×(Option (List bh)))⊕((Option (List GEv))×Bool×(Option (List ar))×Bool×Int))):=
 cond (decide (s0.2.2.1<((a0.getD []).length:Int)))
  (qa (qq (a0.getD []) s0.2.2.1) fun v75=>
  qa (f33 v75) fun MK=>
  cond (decide (MK=0))
   (cond (decide (v75.number=(qe .i64 (s0.2.2.1+1))))
    (cond (decide (v75.kind=([117,110,100,111]:List UInt8)))
     (cond (decide (((s0.1.getD []).length:Int)=0))
      (En (.inr (.inl (qe .i64 (s0.2.2.1+1),12,0,Ga,Ga,Ga))))
      (qa (qq (s0.1.getD []) (qe .i64 (((s0.1.getD []).length:Int)-1))) fun B3=>
      cond (decide (B3.kind=([115,104,105,112]:List UInt8)))
       (En (.inr (.inl (qe .i64 (s0.2.2.1+1),19,0,Ga,Ga,Ga))))
       (qa (yH s0.1 Ga (En (qe .i64 (((s0.1.getD []).length:Int)-1)))) fun v86=>
       qa (yH s0.2.1 Ga (En ((s0.1.getD []).length:Int))) fun Jc=>
       En (.inl (v86,Jc,qe .i64 (s0.2.2.1+1),I,I)))))
     (qa (qq (s0.2.1.getD []) ((s0.1.getD []).length:Int)) fun ET=>
     qa (Ig ET v75) fun Cn=>
     cond (decide (Cn.2=0))
      (qa (bq (En []) (s0.1.getD [])) fun Jd=>
      qa (bq Jd [v75]) fun Ya=>
      qa (bq (En []) (s0.2.1.getD [])) fun Np=>
      qa (bq Np [Cn.1]) fun Yr=>
      En (.inl (Ya,Yr,qe .i64 (s0.2.2.1+1),Ge,Ge)))
      (En (.inr (.inl (qe .i64 (s0.2.2.1+1),Cn.2,Cn.1.day,Cn.1.au,Cn.1.ae,Cn.1.units))))))
    (En (.inr (.inl (qe .i64 (s0.2.2.1+1),11,0,Ga,Ga,Ga)))))
   (En (.inr (.inl (qe .i64 (s0.2.2.1+1),MK,0,Ga,Ga,Ga)))))
  (En (.inr (.inr (s0.1,s0.2.2.2.1,s0.2.1,s0.2.2.2.2,s0.2.2.1))))
def zS (a0:Option (List GEv))(s0:(Option (List GEv))×(Option (List ar))×Int×Bool×Bool):bf:=⟨[(0,sl 5 vev a0,I),(3,.ptr 0 0,I),(6,sl 5 vev s0.1,s0.2.2.2.1),(7,sl 4 jf s0.2.1,s0.2.2.2.2),(8,Iv s0.2.2.1,I)],[kZ]⟩
def E3 (a0:Option (List GEv)):(Int×Int×Int×(Option (List jc))×(Option (List aC))×(Option (List bh)))⊕((Option (List GEv))×Bool×(Option (List ar))×Bool×Int)→je×bf
 | .inl d=>(.ret,⟨[(2,Nl,I),(3,.ptr 0 0,I),(4,Iv d.1,I),(5,Iv d.2.1,I)],[kZ,.cells [(Iv d.2.2.1,I),(sl 5 jd d.2.2.2.1,I),(sl 4 qu d.2.2.2.2.1,I),(sl 8 bI d.2.2.2.2.2,I)]]⟩)
 | .inr d=>(.exit 0,⟨[(0,sl 5 vev a0,I),(3,.ptr 0 0,I),(6,sl 5 vev d.1,d.2.1),(7,sl 4 jf d.2.2.1,d.2.2.2.1),(8,Iv d.2.2.2.2,I),(21,.bool I,I)],[kZ]⟩)
theorem j5t (a0:Option (List GEv))(s0:(Option (List GEv))×(Option (List ar))×Int×Bool×Bool)(r)(h:oW a0 s0=En r):jw pr E4 (zS a0) (E3 a0) s0 r:=by
 unfold oW at h
 repeat' first|(replace h:=qb h;obtain⟨d,g,h⟩:=h;with_reducible first|replace g:=W33 g|replace g:=ze2 g|replace g:=ju9 g|replace g:=Tb g|replace g:=jpb g|skip)|(replace h:=qd h;rcases h with⟨g,h⟩|⟨g,h⟩)
 all_goals (cases h<;>(first|(refine qx ?_;simp only[go_sem,seval,E4,zS,jg,E3,kc, *]<;>rfl)|(refine jq ?_;simp only[go_sem,seval,E4,zS,jg,E3,kc, *]<;>rfl)|(refine q7u ?_ rfl (by first|simp only[go_sem,seval,zS]|rfl) (by first|simp only[go_sem,seval,zS]|rfl);simp only[go_sem,seval,E4,zS,jg,E3,kc, *];exact⟨_,rfl⟩)))
theorem j3g (a0:Option (List GEv)){s0 d}(h:bB (oW a0) s0=En d):X pr (.loop E4) (zS a0 s0)=En (E3 a0 d):=ze (j5t a0) h
def f93 (a0:Option (List GEv)):Option ((Option (List GEv))×ar×Int×Int):=
 cond (decide (1000<((a0.getD []).length:Int)))
  (En (Ga,⟨0,Ga,Ga,Ga⟩,0,5))
  (qa (bB (oW a0) (Ga,En [⟨0,Ga,Ga,Ga⟩],0,I,Ge)) fun d103=>match d103 with
   | .inl d105=>
    En (Ga,⟨0,Ga,Ga,Ga⟩,d105.1,d105.2.1)
   | .inr d106=>
    qa (qq (d106.2.2.1.getD []) ((d106.1.getD []).length:Int)) fun v107=>
    En (d106.1,v107,0,0))
theorem W93 {a0 r}(h:f93 a0=En r):qc pr (X pr) 93 [sl 5 vev a0]=En (.aI [sl 5 vev r.1,aR r.2.1,Iv r.2.2.1,Iv r.2.2.2],I):=by
 unfold f93 at h
 refine zd PJ ?_
 repeat' first|(replace h:=qb h;obtain⟨d,g,h⟩:=h; (with_reducible first|(replace g:=j3g a0 g;rcases d with d|d<;>dsimp only[zS,E3,zg,l3,List.map,zy,yf,jd,qu,bI,jf,vev,bp,q9,yb]at g h)|skip);try dsimp only[zg,l3,List.map,zy,yf,jd,qu,bI,jf,vev,bp,q9,yb,aE,aR,aU,aL,aP,aD]at g)|(replace h:=qd h;rcases h with⟨g,h⟩|⟨g,h⟩)
 all_goals (cases h<;>(simp only[go_sem,seval,PJ,jg, *];exact⟨_,rfl⟩))
def f38 (a0:Option (List GEv)):Option (ar×Int×Int):=
 qa (f93 a0) fun v1=>
 En (v1.2.1,v1.2.2.1,v1.2.2.2)
theorem W38 {a0 r}(h:f38 a0=En r):qc pr (X pr) 38 [sl 5 vev a0]=En (.aI [aR r.1,Iv r.2.1,Iv r.2.2],I):=by
 unfold f38 at h
 refine zd JE ?_
 repeat' first|(replace h:=qb h;obtain⟨d,g,h⟩:=h;with_reducible first|replace g:=W93 g|skip)|(replace h:=qd h;rcases h with⟨g,h⟩|⟨g,h⟩)
 all_goals (cases h<;>(simp only[go_sem,seval,JE, *];exact⟨_,rfl⟩))
def f14 (a0:Option (List GEv))(a1:GEv):Option Int:=
 qa (f38 a0) fun v1=>
 cond (decide (v1.2.2=0))
  (qa (f33 a1) fun v4=>
  cond (decide (v4=0))
   (cond (decide (1000≤((a0.getD []).length:Int)))
    (En 5)
    (qa (bq (En []) (a0.getD [])) fun v8=>
    qa (bq v8 [a1]) fun v10=>
    qa (f38 v10) fun v12=>
    En v12.2.2))
   (En v4))
  (En v1.2.2)
theorem W14 {a0 a1 r}(h:f14 a0 a1=En r):qc pr (X pr) 14 [sl 5 vev a0,aE a1]=En (Iv r,I):=by
 unfold f14 at h
 refine zd JF ?_
 repeat' first|(replace h:=qb h;obtain⟨d,g,h⟩:=h;with_reducible first|replace g:=W38 g|replace g:=W33 g|replace g:=Tb g|skip)|(replace h:=qd h;rcases h with⟨g,h⟩|⟨g,h⟩)
 all_goals (cases h<;>(simp only[go_sem,seval,JF,kc, *];exact⟨_,rfl⟩))
end Go.Z
namespace Go.Z
open Go Go.Abs Go.W
def Ys (a0:bn)(e0:List (List UInt8×Int)):Option Bool:=
 En (decide ((mN e0 a0.k)<a0.n))
theorem jze {a0 e0 r}(h:Ys a0 e0=En r):qm pr (X pr) 194 [aN a0,.ai (.map 0)] [.map (eR e0)]=En (.bool r,I,[.map (eR e0)]):=by
 unfold Ys at h
 have hr:decide ((mN e0 a0.k)<a0.n)=r:=En.inj h
 subst hr
 rw[qj (show pr.bG 194=En ul from rfl) (by simp)]
 simp only[go_sem,seval,ul,jmc]<;>rfl
def PK (a0:Option (List bn))(e0:List (List UInt8×Int))(s0:Int):Option (Int⊕(Int⊕Int)):=
 cond (decide (s0<((a0.getD []).length:Int)))
  (qa (qq (a0.getD []) s0) fun ei=>
  qa (Ys ei e0) fun dU=>
  cond dU
   (En (.inr (.inl s0)))
   (En (.inl (qe .i64 (s0+1)))))
  (En (.inr (.inr s0)))
def PL (a0:Option (List bn))(e0:List (List UInt8×Int))(s0:Int):bf:=⟨[(0,sl 2 bp a0,I),(1,.fn (.func 194) [] [.ai (.map 0)],I),(7,Lv a0,I),(8,Iv s0,I)],[.map (eR e0)]⟩
def PN (a0:Option (List bn))(e0:List (List UInt8×Int)):Int⊕Int→je×bf
 | .inl d=>(.ret,⟨[(4,Iv d,I)],[.map (eR e0)]⟩)
 | .inr d=>(.exit 0,⟨[(0,sl 2 bp a0,I),(1,.fn (.func 194) [] [.ai (.map 0)],I),(7,Lv a0,I),(8,Iv d,I),(9,.bool I,I)],[.map (eR e0)]⟩)
theorem jpu (a0:Option (List bn))(e0:List (List UInt8×Int))(s0:Int)(r)(h:PK a0 e0 s0=En r):jw pr pg (PL a0 e0) (PN a0 e0) s0 r:=by
 unfold PK at h
 repeat' first|(replace h:=qb h;obtain⟨d,g,h⟩:=h;with_reducible first|replace g:=jze g|skip)|(replace h:=qd h;rcases h with⟨g,h⟩|⟨g,h⟩)
 all_goals (cases h<;>((first|refine qx ?_|refine jq ?_);simp only[go_sem,seval,pg,PL,jg,PN, *]<;>rfl))
theorem jnn (a0:Option (List bn))(e0:List (List UInt8×Int)){s0 d}(h:bB (PK a0 e0) s0=En d):X pr (.loop pg) (PL a0 e0 s0)=En (PN a0 e0 d):=ze (jpu a0 e0) h
def Hv (a0:Option (List bn))(e0:List (List UInt8×Int)):Option Int:=
 qa (bB (PK a0 e0) 0) fun d19=>match d19 with
  | .inl d21=>
   En d21
  | .inr d22=>
   En (-1)
theorem j74 {a0 e0 r}(h:Hv a0 e0=En r):qm pr (X pr) 250 [sl 2 bp a0,.fn (.func 194) [] [.ai (.map 0)]] [.map (eR e0)]=En (Iv r,I,[.map (eR e0)]):=by
 unfold Hv at h
 rw[qj (show pr.bG 250=En iX from rfl) (by simp)]
 repeat' first|(replace h:=qb h;obtain⟨d,g,h⟩:=h;with_reducible first|(replace g:=jnn a0 e0 g;rcases d with d|d<;>dsimp only[PL,PN,zg]at g h)|skip)|(replace h:=qd h;rcases h with⟨g,h⟩|⟨g,h⟩)
 all_goals (cases h<;>(simp only[go_sem,seval,iX, *]<;>rfl))
def Hu (a0:Option (List bn))(e0:List (List UInt8×Int)):Option Bool:=
 qa (Hv a0 e0) fun v1=>
 En (decide (0≤v1))
theorem j6v {a0 e0 r}(h:Hu a0 e0=En r):qm pr (X pr) 193 [sl 2 bp a0,.fn (.func 194) [] [.ai (.map 0)]] [.map (eR e0)]=En (.bool r,I,[.map (eR e0)]):=by
 unfold Hu at h
 obtain⟨v1,h2,h⟩:=qb h
 have sG:qm pr (X pr) 250 [sl 2 bp a0,.fn (.func 194) [] [.ai (.map 0)]] [.map (eR e0)]=En (Iv v1,I,[.map (eR e0)]):=j74 h2
 have hr:decide (0≤v1)=r:=En.inj h
 subst hr
 rw[qj (show pr.bG 193=En lj from rfl) (by simp)]
 simp only[go_sem,seval,lj,sG]<;>rfl
def LR (a0:jc):Option Bool:=
 En a0.held
theorem za4 (hp:qh){a0 r}(h:LR a0=En r):qm pr (X pr) 135 [aL a0] hp=En (.bool r,I,hp):=by
 unfold LR at h
 have hr:a0.held=r:=En.inj h
 subst hr
 rw[qj (show pr.bG 135=En um from rfl) (by simp)]
 simp only[go_sem,seval,um]<;>rfl
def Hz (a0:Option (List jc))(s0:(Option (List jc))×Int×Bool):Option (((Option (List jc))×Int×Bool)⊕(((Option (List jc))×Bool×Int))):=
 cond (decide (s0.2.1<((a0.getD []).length:Int)))
  (qa (qq (a0.getD []) s0.2.1) fun v20=>
  qa (LR v20) fun v22=>
  cond v22
   (cond s0.2.2
    (qa (bq s0.1 [v20]) fun v26=>
    En (.inl (v26,qe .i64 (s0.2.1+1),Ge)))
    (cond s0.1.isNone
     (qa (bq s0.1 [v20]) fun hO=>
     En (.inl (hO,qe .i64 (s0.2.1+1),Ge)))
     (Ga)))
   (En (.inl (s0.1,qe .i64 (s0.2.1+1),s0.2.2))))
  (En (.inr (s0.1,s0.2.2,s0.2.1)))
def PO (a0:Option (List jc))(s0:(Option (List jc))×Int×Bool):bf:=⟨[(1,.fn (.func 135) [] [],I),(5,sl 5 jd s0.1,s0.2.2),(8,sl 5 jd a0,I),(9,Lv a0,I),(10,Iv s0.2.1,I)],[]⟩
def PP (a0:Option (List jc))(d:((Option (List jc))×Bool×Int)):je×bf:=(.exit 0,⟨[(1,.fn (.func 135) [] [],I),(5,sl 5 jd d.1,d.2.1),(8,sl 5 jd a0,I),(9,Lv a0,I),(10,Iv d.2.2,I),(11,.bool I,I)],[]⟩)
theorem jsu (a0:Option (List jc))(s0:(Option (List jc))×Int×Bool)(r)(h:Hz a0 s0=En r):jw pr PQ (PO a0) (PP a0) s0 r:=by
 unfold Hz at h
 repeat' first|(replace h:=qb h;obtain⟨d,g,h⟩:=h;with_reducible first|replace g:=za4 [] g|replace g:=LD g|skip)|(replace h:=qd h;rcases h with⟨g,h⟩|⟨g,h⟩)
 all_goals (cases h<;>((first|refine qx ?_|refine jq ?_);simp only[go_sem,seval,PQ,PO,jg,PP, *]<;>rfl))
theorem jvt (a0:Option (List jc)){s0 d}(h:bB (Hz a0) s0=En d):X pr (.loop PQ) (PO a0 s0)=En (PP a0 d):=ze (jsu a0) h
def Hy (a0:Option (List jc)):Option ((Option (List jc))×Bool):=
 qa (bB (Hz a0) (Ga,0,I)) fun d31=>
 En (d31.1,d31.2.1)
theorem zd5 {a0 r}(h:Hy a0=En r):qc pr (X pr) 134 [sl 5 jd a0,.fn (.func 135) [] []]=En (sl 5 jd r.1,r.2):=by
 unfold Hy at h
 refine kr uo ?_
 repeat' first|(replace h:=qb h;obtain⟨d,g,h⟩:=h;with_reducible first|(replace g:=jvt a0 g;dsimp only[PO,PP,zg]at g h)|skip)|(replace h:=qd h;rcases h with⟨g,h⟩|⟨g,h⟩)
 all_goals (cases h<;>(simp only[go_sem,seval,uo, *];exact⟨_,rfl⟩))
end Go.Z
namespace Go.Z
open Go Go.Abs Go.W
def mg:aw→aw
 | .seq a _=>a
 |x=>x
def iD:aw→aw
 | .seq _ b=>b
 |x=>x
def Co:aw→aw
 | .block _ b=>b
 |x=>x
def PR:aw→aw
 | .rangeFunc _ _ a _=>a
 |x=>x
def JG:aw→aw
 | .rangeFunc _ _ _ b=>b
 |x=>x
theorem qui {n v h t}(hn:h.length=n)(hv:Abs.below n v=Ge)(hb:zk n h=Ge):jp n v (h++t)=h:=by
 have ht:(h++t).take n=h:=by rw[←hn,List.take_left'];rfl
 unfold jp
 rw[ht,hv,hb]
 cases hc:Nat.ble (h++t).length n with
 |true=>
  have:=Nat.le_of_ble_eq_true hc
  rw[List.length_append,hn]at this
  have:t=[]:=List.eq_nil_of_length_eq_zero (by omega)
  subst this;simp
 |false=>rfl
theorem ya {n v h}(hn:h.length=n):jp n v h=h:=by
 unfold jp
 rw[Nat.ble_eq_true_of_le (by omega)];rfl
section
variable {σ:Type}(r:ar)(u:bh)(H:σ→qh)(step:σ→jc→Int→Option σ)
def oU (x:Int×σ):Option ((Int×σ)⊕(Int×σ)):=
 cond (decide (x.1<((u.uses.getD []).length:Int)))
  (qa (qq (u.uses.getD []) x.1) fun s=>qa (f64 r s.k) fun v=>qa (qq (r.au.getD []) v) fun l=>qa (step x.2 l s.n) fun y=>En (.inl (qe .i64 (x.1+1),y)))
  (En (.inr x))
def E5 (x:Int×σ):bf:=⟨[(0,.fn (.yield 1) [] [],I),(2,.ai (aR r),I),(7,sl 2 bp u.uses,I),(8,Lv u.uses,I),(9,Iv x.1,I)],H x.2⟩
def PS (x:Int×σ):je×bf:=(.exit 0,⟨[(0,.fn (.yield 1) [] [],I),(2,.ai (aR r),I),(7,sl 2 bp u.uses,I),(8,Lv u.uses,I),(9,Iv x.1,I),(10,.bool I,I)],H x.2⟩)
theorem zif (hy:∀x l n y,step x l n=En y→kG (X pr) 1 [aL l,Iv n] (H x)=En (.bool Ge,H y))(hl:∀x,(H x).length=2)(x:Int×σ)(q)(h:oU r u step x=En q):jw pr JH (E5 r u H) (PS r u H) x q:=by
 unfold oU at h
 rcases qd h with⟨h1,h⟩|⟨h1,h⟩
 ·obtain⟨s,h2,h⟩:=qb h
  obtain⟨v,h3,h⟩:=qb h
  obtain⟨l,h4,h⟩:=qb h
  obtain⟨y,h5,h⟩:=qb h
  cases h
  have g:=hy _ _ _ _ h5
  have w:=EY h3
  exact wy (bZ:=E5 r u H (qe .i64 (x.1+1),y)) (by simp only[go_sem,seval,JH,E5,h1,zh h2,w,zh h4,g]<;>rfl) (A3 (by show(H y).length≤(H x.2).length;rw[hl,hl];exact Nat.le_refl _))
 ·cases h
  exact qx (by simp only[go_sem,seval,JH,E5,h1,PS]<;>rfl)
theorem jvp {r:ar}{u:bh}{H:σ→qh}{step:σ→jc→Int→Option σ}(hy:∀x l n y,step x l n=En y→kG (X pr) 1 [aL l,Iv n] (H x)=En (.bool Ge,H y))(hl:∀x,(H x).length=2){x0 d}(h:bB (oU r u step) (0,x0)=En d):qm pr (X pr) 192 [.fn (.yield 1) [] [],.ai (aU u),.ai (aR r)] (H x0)=En (.aI [],I,H d.2):=by
 have h1:X pr (.loop JH) (E5 r u H (0,x0))=En (PS r u H d):=jms (zif r u H step hy hl) (fun d=>by intro hh;cases hh) h
 rw[qj (show pr.bG 192=En uq from rfl) (by simp)]
 simp only[E5,PS]at h1
 simp only[go_sem,seval,uq,h1]<;>rfl
end
def xu:aw:=Co (iD (mg (iD (iD pW.body))))
def ur:aw:=PR xu
def pX:aw:=JG xu
theorem jos:xu=.rangeFunc (.tmp 9) [10,11] ur pX:=rfl
def mr (r:ar)(u:bh):Env:=[(2,.ai (aR r),I),(3,.ai (aU u),I),(5,.ptr 0 0,I),(9,.fn (.func 192) [] [.ai (aU u),.ai (aR r)],I)]
def Cp (o:Option (List jc)):qh:=[.cells [(sl 5 jd o,o.isSome)]]
def jT (r:ar)(u:bh)(pd:Option je)(o:Option (List jc)):qh:=[.cells [(sl 5 jd o,o.isSome)],.loop ⟨mr r u,[10,11],ur,pX,pd⟩]
def Yt (r:ar)(u:bh)(l:jc)(n:Int):Env:=(([10,11][1]),Iv n,I)::(([10,11][0]),aL l,I)::mr r u
def PT (r:ar)(u:bh)(l:jc)(n:Int):Env:=[(2,.ai (aR r),I),(3,.ai (aU u),I),(5,.ptr 0 0,I),(6,.ai (aL l),I)]
theorem zdx {r u l n}:vS (fB (mr r u)) [10,11] [aL l,Iv n]=En (Yt r u l n):=rfl
theorem jie {r u l n H}:X pr ur ⟨Yt r u l n,H⟩=En (.normal,⟨PT r u l n,H⟩):=by
 simp only[go_sem,seval,ur,PR,xu,Co,mg,iD,pW,Yt,mr,List.getElem_cons_zero,List.getElem_cons_succ]<;>rfl
def yP (o:Option (List jc))(l:jc)(_:Int):Option (Option (List jc)):=bq o [l]
theorem jim {r u l n pd o o'}(ho:yP o l n=En o'):∃e t,X pr pX ⟨PT r u l n,jT r u pd o⟩=En (.normal,⟨e,jT r u pd o'++t⟩):=by
 unfold yP at ho
 have hs:o'.isSome=Ge:=by
  cases o' with
  |some _=>rfl
  |none=>cases o<;>simp[bq,D9]at ho
 cases o with
 |none=>
  have ap:=fun(b:Nat) (h:qh) (bb:Bool)=>qvr (b:=b) (h:=h) (bb:=bb) ho rfl
  simp only[go_sem,seval,pX,JG,xu,Co,mg,iD,pW,PT,jT,ap,Option.isSome_none,hs]
  exact⟨_,_,rfl⟩
 |some o=>
  have ap:=fun(b t:Nat) (h:qh) (bb:Bool)=>qv6 (b:=b) (t:=t) (h:=h) (bb:=bb) ho
  simp only[go_sem,seval,pX,JG,xu,Co,mg,iD,pW,PT,jT,ap,Option.isSome_some,hs]
  exact⟨_,_,rfl⟩
theorem jcq {r u pd o}:zk 2 (jT r u pd o)=Ge:=by
 simp only[go_sem,seval,jT,zk,po,pn,mS,mr]<;>rfl
theorem y75 {r u l n o o'}(ho:yP o l n=En o'):kG (X pr) 1 [aL l,Iv n] (jT r u Ga o)=En (.bool Ge,jT r u Ga o'):=by
 have g:∀o pd t,zc (jT r u pd o++t) 1=En (.loop ⟨mr r u,[10,11],ur,pX,pd⟩):=fun _ _ _=>rfl
 have g0:∀o pd,zc (jT r u pd o) 1=En (.loop ⟨mr r u,[10,11],ur,pX,pd⟩):=fun _ _=>rfl
 have st:∀o pd uv t,(jT r u pd o++t).set 1 (.loop ⟨mr r u,[10,11],ur,pX,uv⟩)=jT r u uv o++t:=fun _ _ _ _=>rfl
 have Yu:∀o pd uv,(jT r u pd o).set 1 (.loop ⟨mr r u,[10,11],ur,pX,uv⟩)=jT r u uv o:=fun _ _ _=>rfl
 have hl:∀o pd,(jT r u pd o).length=2:=fun _ _=>rfl
 have ha:∀o pd v t,Abs.below 2 v=Ge→jp 2 v (jT r u pd o++t)=jT r u pd o:=fun _ _ _ _ hv=>qui rfl hv jcq
 obtain⟨e,t,hx⟩:=jim (r:=r) (u:=u) (n:=n) (pd:=En .normal) ho
 unfold kG
 simp only[g0,zdx,jie,Gf,cond_true,Yu,hl,hx,g,st]
 rw[ha _ _ _ _ rfl]
theorem jpa {r:ar}{u:bh}{o:Option (List jc)}{d}(h:bB (oU r u yP) (0,o)=En d):X pr xu ⟨mr r u,Cp o⟩=En (.normal,⟨mr r u,Cp d.2⟩):=by
 have h1:=jvp (H:=jT r u Ga) (fun x l n y hs=>y75 hs) (fun _=>rfl) h
 have hb:∀o,zk 1 (Cp o)=Ge:=by
  intro o
  simp only[go_sem,seval,Cp,zk,po,pn]<;>rfl
 rw[jos,Se]
 unfold mV
 have hn:(zu ur&&zu pX)=Ge:=rfl
 have he:qi (mr r u) (.tmp 9)=En (.fn (.func 192) [] [.ai (aU u),.ai (aR r)]):=rfl
 have hl:∀o,(Cp o).length=1:=fun _=>rfl
 have nv:∀o,Cp o++[.loop ⟨mr r u,[10,11],ur,pX,Ga⟩]=jT r u Ga o:=fun _=>rfl
 have hg:∀o,zc (jT r u Ga o) 1=En (.loop ⟨mr r u,[10,11],ur,pX,Ga⟩):=fun _=>rfl
 have ht:∀o,(jT r u Ga o).take 1=Cp o:=fun _=>rfl
 simp only[hn,cond_true,he,hl,List.nil_append,List.cons_append,nv,h1,hg,ht,hb]
def zT:aw:=Co (iD (mg (iD (iD jB.body))))
def uw:aw:=PR zT
def ux:aw:=JG zT
theorem jga:zT=.rangeFunc (.tmp 11) [12,13] uw ux:=rfl
def mA (r:ar)(u:bh):Env:=[(2,.ai (aR r),I),(3,.ai (aU u),I),(5,.ai (.map 0),I),(11,.fn (.func 192) [] [.ai (aU u),.ai (aR r)],I)]
def Cq (o:List (List UInt8×Int)):qh:=[.map (eR o)]
def kF (r:ar)(u:bh)(pd:Option je)(o:List (List UInt8×Int)):qh:=[.map (eR o),.loop ⟨mA r u,[12,13],uw,ux,pd⟩]
def Yv (r:ar)(u:bh)(l:jc)(n:Int):Env:=(([12,13][1]),Iv n,I)::(([12,13][0]),aL l,I)::mA r u
def Yw (r:ar)(u:bh)(l:jc)(n:Int):Env:=[(2,.ai (aR r),I),(3,.ai (aU u),I),(5,.ai (.map 0),I),(6,.ai (aL l),I),(7,Iv n,I)]
theorem j7s {r u l n}:vS (fB (mA r u)) [12,13] [aL l,Iv n]=En (Yv r u l n):=rfl
theorem jc1 {r u l n H}:X pr uw ⟨Yv r u l n,H⟩=En (.normal,⟨Yw r u l n,H⟩):=by
 simp only[go_sem,seval,uw,PR,zT,Co,mg,iD,jB,Yv,mA,List.getElem_cons_zero,List.getElem_cons_succ]<;>rfl
def wE (o:List (List UInt8×Int))(l:jc)(n:Int):Option (List (List UInt8×Int)):=LJ o l.kind (qe .i64 (mN o l.kind+n))
theorem je1 {r u l n pd o o'}(ho:wE o l n=En o'):∃e t,X pr ux ⟨Yw r u l n,kF r u pd o⟩=En (.normal,⟨e,kF r u pd o'++t⟩):=by
 unfold wE at ho
 simp only[go_sem,seval,ux,JG,zT,Co,mg,iD,jB,Yw,kF,jmc,jqp ho]
 exact⟨_,_,rfl⟩
theorem q86 {r u pd o}:zk 2 (kF r u pd o)=Ge:=by
 simp only[go_sem,seval,kF,zk,po,pn,mS,mA]<;>rfl
theorem zda {r u l n o o'}(ho:wE o l n=En o'):kG (X pr) 1 [aL l,Iv n] (kF r u Ga o)=En (.bool Ge,kF r u Ga o'):=by
 have g:∀o pd t,zc (kF r u pd o++t) 1=En (.loop ⟨mA r u,[12,13],uw,ux,pd⟩):=fun _ _ _=>rfl
 have g0:∀o pd,zc (kF r u pd o) 1=En (.loop ⟨mA r u,[12,13],uw,ux,pd⟩):=fun _ _=>rfl
 have st:∀o pd uv t,(kF r u pd o++t).set 1 (.loop ⟨mA r u,[12,13],uw,ux,uv⟩)=kF r u uv o++t:=fun _ _ _ _=>rfl
 have Yu:∀o pd uv,(kF r u pd o).set 1 (.loop ⟨mA r u,[12,13],uw,ux,uv⟩)=kF r u uv o:=fun _ _ _=>rfl
 have hl:∀o pd,(kF r u pd o).length=2:=fun _ _=>rfl
 have ha:∀o pd v t,Abs.below 2 v=Ge→jp 2 v (kF r u pd o++t)=kF r u pd o:=fun _ _ _ _ hv=>qui rfl hv q86
 obtain⟨e,t,hx⟩:=je1 (r:=r) (u:=u) (n:=n) (pd:=En .normal) ho
 unfold kG
 simp only[g0,j7s,jc1,Gf,cond_true,Yu,hl,hx,g,st]
 rw[ha _ _ _ _ rfl]
theorem jh9 {r:ar}{u:bh}{o:List (List UInt8×Int)}{d}(h:bB (oU r u wE) (0,o)=En d):X pr zT ⟨mA r u,Cq o⟩=En (.normal,⟨mA r u,Cq d.2⟩):=by
 have h1:=jvp (H:=kF r u Ga) (fun x l n y hs=>zda hs) (fun _=>rfl) h
 have hb:∀o,zk 1 (Cq o)=Ge:=by
  intro o
  simp only[go_sem,seval,Cq,zk,po,pn]<;>rfl
 rw[jga,Se]
 unfold mV
 have hn:(zu uw&&zu ux)=Ge:=rfl
 have he:qi (mA r u) (.tmp 11)=En (.fn (.func 192) [] [.ai (aU u),.ai (aR r)]):=rfl
 have hl:∀o,(Cq o).length=1:=fun _=>rfl
 have nv:∀o,Cq o++[.loop ⟨mA r u,[12,13],uw,ux,Ga⟩]=kF r u Ga o:=fun _=>rfl
 have hg:∀o,zc (kF r u Ga o) 1=En (.loop ⟨mA r u,[12,13],uw,ux,Ga⟩):=fun _=>rfl
 have ht:∀o,(kF r u Ga o).take 1=Cq o:=fun _=>rfl
 simp only[hn,cond_true,he,hl,List.nil_append,List.cons_append,nv,h1,hg,ht,hb]
end Go.Z
namespace Go.Z
open Go Go.Abs Go.W
theorem juu {hp r u}:qm pr (X pr) 131 [aR r,aU u] hp=En (.fn (.func 192) [] [.ai (aU u),.ai (aR r)],I,hp):=by
 rw[qj (show pr.bG 131=En uy from rfl) (by simp)]
 simp only[go_sem,seval,uy]<;>rfl
def Hw (r:ar)(u:bh):Option Bool:=
 qa (bB (oU r u wE) (0,[])) fun d=>qa (pK r u) fun doc=>qa (Hu doc.aB d.2) fun b=>En (!b)
def jeg:aw:=mg jB.body
def jc5:aw:=mg (iD jB.body)
def jda:aw:=mg (mg (iD (iD jB.body)))
def jc8:aw:=iD (iD (iD jB.body))
theorem zjf {r u q}(h:Hw r u=En q):qc pr (X pr) 133 [aR r,aU u]=En (.bool q,I):=by
 unfold Hw at h
 obtain⟨d,h1,h⟩:=qb h
 obtain⟨doc,h2,h⟩:=qb h
 obtain⟨b,h3,h⟩:=qb h
 cases h
 have hx:X pr zT ⟨mA r u,[.map []]⟩=En (.normal,⟨mA r u,[.map (eR d.2)]⟩):=jh9 h1
 have w1:=juu (hp:=[.map []]) (r:=r) (u:=u)
 have ha:jp 1 (.fn (.func 192) [] [.ai (aU u),.ai (aR r)]) ([.map []]:qh)=[.map []]:=ya rfl
 have w2:qc pr (X pr) 126 [aR r,aU u]=En (aD doc,I):=Nj h2
 have w3:=j6v h3
 have hb:jp 1 (.bool b) ([.map (eR d.2)]:qh)=[.map (eR d.2)]:=ya rfl
 have this:∃hh,qm pr (X pr) 133 [aR r,aU u] []=En (.bool (!b),I,hh):=by
  rw[qj (show pr.bG 133=En ⟨27,.seq jeg (.seq jc5 (.seq (.seq jda (.block 0 zT)) jc8)),[.tmp 4]⟩from rfl) (by simp)]
  simp only[mA]at hx
  simp only[go_sem,seval,jeg,jc5,jda,jc8,mg,iD,jB,w1,ha,w2,w3,hb,hx]
  exact⟨_,rfl⟩
 obtain⟨hh,this⟩:=this
 exact zx rfl this (by first|rfl|simp only[go_sem,seval]) (by first|rfl|simp only[go_sem,seval])
def f79 (r:ar)(u:bh):Option Int:=
 qa (bB (oU r u yP) (0,Ga)) fun d=>qa (f48 u.aq 21) fun e1=>qa (D2 r u) fun lt=>qa (f48 (!decide (u.version=lt)) 32) fun e2=>qa (Hw r u) fun c=>qa (f48 (!c) 20) fun e3=>
 qa (f78 r u) fun m=>qa (f48 (decide (0<((m.1.getD []).length:Int))) 31) fun e4=>qa (Hy d.2) fun hd=>qa (f48 (decide (0<((hd.1.getD []).length:Int))) 34) fun e5=>f46 (En [e1,e2,e3,e4,e5])
def jlt:aw:=mg pW.body
def jmi:aw:=mg (iD pW.body)
def jl0:aw:=mg (mg (iD (iD pW.body)))
def jl4:aw:=iD (iD (iD pW.body))
theorem W79 {r u q}(h:f79 r u=En q):qc pr (X pr) 79 [aR r,aU u]=En (Iv q,I):=by
 unfold f79 at h
 obtain⟨d,h1,h⟩:=qb h
 obtain⟨e1,g1,h⟩:=qb h
 obtain⟨lt,h2,h⟩:=qb h
 obtain⟨e2,g2,h⟩:=qb h
 obtain⟨c,h3,h⟩:=qb h
 obtain⟨e3,g3,h⟩:=qb h
 obtain⟨m,h4,h⟩:=qb h
 obtain⟨e4,g4,h⟩:=qb h
 obtain⟨hd,h5,h⟩:=qb h
 obtain⟨e5,g5,h⟩:=qb h
 have hx:X pr xu ⟨mr r u,[.cells [(Nl,I)]]⟩=En (.normal,⟨mr r u,[.cells [(sl 5 jd d.2,d.2.isSome)]]⟩):=jpa h1
 have w1:=juu (hp:=[.cells [(Nl,I)]]) (r:=r) (u:=u)
 have ha:jp 1 (.fn (.func 192) [] [.ai (aU u),.ai (aR r)]) ([.cells [(Nl,I)]]:qh)=[.cells [(Nl,I)]]:=ya rfl
 have k1:=eO g1
 have w2:qc pr (X pr) 132 [aR r,aU u]=En (Iv lt,I):=juc h2
 have k2:=eO g2
 have w3:=zjf h3
 have k3:=eO g3
 have w4:qc pr (X pr) 78 [aR r,aU u]=En (sl 1 yf m.1,m.2):=W78 h4
 have k4:=eO g4
 have w5:=zd5 h5
 have k5:=eO g5
 have k6:qc pr (X pr) 46 [.list I 1 [Iv e1,Iv e2,Iv e3,Iv e4,Iv e5]]=En (Iv q,I):=iZ h
 have this:∃hh,qm pr (X pr) 79 [aR r,aU u] []=En (Iv q,I,hh):=by
  rw[qj (show pr.bG 79=En ⟨44,.seq jlt (.seq jmi (.seq (.seq jl0 (.block 0 xu)) jl4)),[.tmp 4]⟩from rfl) (by simp)]
  simp only[mr]at hx
  simp only[go_sem,seval,jlt,jmi,jl0,jl4,mg,iD,pW,w1,ha,k1,w2,k2,w3,k3,w4,k4,w5,k5,k6,hx]
  exact⟨_,rfl⟩
 obtain⟨hh,this⟩:=this
 exact zx rfl this (by first|rfl|simp only[go_sem,seval]) (by first|rfl|simp only[go_sem,seval])
end Go.Z
namespace Go.Z
open Go Go.Abs Go.W
def H5 (a1:GEv)(aX:Int)(aV:Option (List jc))(aQ:Option (List aC))(aF:Option (List bh)):Option (Int×(Option (List bh))):=
 qa (qq (a1.names.getD []) 0) fun v1=>
 qa (f76 (⟨aX,aV,aQ,aF⟩) v1) fun v3=>
 qa (qq (aF.getD []) v3) fun v5=>
 qa (f79 (⟨aX,aV,aQ,aF⟩) v5) fun v7=>
 cond (decide (v7=0))
  (qa (TE aF v3) fun v10=>
  En (0,v10))
  (En (v7,aF))
theorem zbw {a1 aX aV aQ aF x1 x2 x3 r}(h:H5 a1 aX aV aQ aF=En r):qm pr (X pr) 180 [.ptr 0 0,aE a1] [kR aX aV aQ aF,x1,x2,x3]=En (Iv r.1,I,[kR aX aV aQ r.2,x1,x2,x3]):=by
 unfold H5 at h
 rw[qj (show pr.bG 180=En uz from rfl) (by simp)]
 repeat' first|(replace h:=qb h;obtain⟨d,g,h⟩:=h;with_reducible first|replace g:=zQ g|replace g:=W79 g|replace g:=ji6 g|skip)|(replace h:=qd h;rcases h with⟨g,h⟩|⟨g,h⟩)
 all_goals (cases h<;>(simp only[go_sem,seval,uz,jg, *]<;>rfl))
end Go.Z
namespace Go.Z
open Go Go.Abs Go.W
def Br (a0:ar)(a1:GEv):Option (Option (Nat)⊕(Nat⊕Nat)):=
 cond (decide (0<(j6 a1.kind).length))
  (cond (decide (((qn (j6 a1.kind) 0).1:Int)=45))
   (En (.inl (En (0+(qn (j6 a1.kind) 0).2))))
   (qa (qq (a1.names.getD []) (0:Int)) fun pV=>
   qa (Ei a0 ((qn (j6 a1.kind) 0).1:Int) pV) fun zP=>
   cond zP
    (En (.inl (En (0+(qn (j6 a1.kind) 0).2))))
    (En (.inr (.inl (0+(qn (j6 a1.kind) 0).2))))))
  (En (.inr (.inr 0)))
def wI (a0:ar)(a1:GEv)(s0:Nat):Option (Option (Nat)⊕(Nat⊕Nat)):=
 cond (decide (s0<(j6 a1.kind).length))
  (cond (decide (((qn (j6 a1.kind) s0).1:Int)=45))
   (En (.inl (En (s0+(qn (j6 a1.kind) s0).2))))
   (qa (qq (a1.names.getD []) (s0:Int)) fun vI=>
   qa (Ei a0 ((qn (j6 a1.kind) s0).1:Int) vI) fun oX=>
   cond oX
    (En (.inl (En (s0+(qn (j6 a1.kind) s0).2))))
    (En (.inr (.inl (s0+(qn (j6 a1.kind) s0).2))))))
  (En (.inr (.inr s0)))
def Ej (a0:ar)(a1:GEv):Option (Nat)→Option (Option (Nat)⊕(Nat⊕Nat))
 |none=>Br a0 a1
 |some x=>wI a0 a1 x
def Yx (a0:ar)(a1:GEv)(s0:Nat):bf:=⟨[(2,.ptr 0 0,I),(3,.ai (aE a1),I),(4,.ptr 1 0,I),(6,.ai (.agg [.str (j6 a1.kind),Iv (nB a1.kind),l5 a1.kind]),I),(24,.ptr 3 0,I),(41,.bool I,I)],[.cells [(Iv a0.day,I),(sl 5 jd a0.au,I),(sl 4 qu a0.ae,I),(sl 8 bI a0.units,I)],kZ,.map qz,.iter (j6 a1.kind) s0]⟩
def E6 (a0:ar)(a1:GEv):Option (Nat)→bf
 |none=>⟨[(2,.ptr 0 0,I),(3,.ai (aE a1),I),(4,.ptr 1 0,I),(6,.ai (.agg [.str (j6 a1.kind),Iv (nB a1.kind),l5 a1.kind]),I),(24,.ptr 3 0,I)],[.cells [(Iv a0.day,I),(sl 5 jd a0.au,I),(sl 4 qu a0.ae,I),(sl 8 bI a0.units,I)],kZ,.map qz,.iter (j6 a1.kind) 0]⟩
 |some x=>Yx a0 a1 x
def E7 (a0:ar)(a1:GEv):Nat⊕Nat→je×bf
 | .inl d=>(.ret,⟨[(4,.ptr 1 0,I),(5,Iv 10,I)],[.cells [(Iv a0.day,I),(sl 5 jd a0.au,I),(sl 4 qu a0.ae,I),(sl 8 bI a0.units,I)],kZ,.map qz,.iter (j6 a1.kind) d]⟩)
 | .inr d=>(.exit 0,⟨[(2,.ptr 0 0,I),(3,.ai (aE a1),I),(4,.ptr 1 0,I),(6,.ai (.agg [.str (j6 a1.kind),Iv (nB a1.kind),l5 a1.kind]),I),(24,.ptr 3 0,I),(25,.aI [.bool I],I),(26,.bool I,I)],[.cells [(Iv a0.day,I),(sl 5 jd a0.au,I),(sl 4 qu a0.ae,I),(sl 8 bI a0.units,I)],kZ,.map qz,.iter (j6 a1.kind) d]⟩)
theorem jmy (a0:ar)(a1:GEv)(r)(h:Br a0 a1=En r):jw pr xw (E6 a0 a1) (E7 a0 a1) Ga r:=by
 unfold Br at h
 repeat' first|(replace h:=qb h;obtain⟨d,g,h⟩:=h;with_reducible first|replace g:=jq9 g|skip)|(replace h:=qd h;rcases h with⟨g,h⟩|⟨g,h⟩)
 all_goals (cases h<;>((first|refine qx ?_|refine jq ?_);simp only[go_sem,seval,xw,E6,Yx,LC,jg,E7, *]<;>rfl))
theorem jn1 (a0:ar)(a1:GEv)(s0:Nat)(r)(h:wI a0 a1 s0=En r):jw pr xw (E6 a0 a1) (E7 a0 a1) (En s0) r:=by
 unfold wI at h
 repeat' first|(replace h:=qb h;obtain⟨d,g,h⟩:=h;with_reducible first|replace g:=jq9 g|skip)|(replace h:=qd h;rcases h with⟨g,h⟩|⟨g,h⟩)
 all_goals (cases h<;>((first|refine qx ?_|refine jq ?_);simp only[go_sem,seval,xw,E6,Yx,LC,jg,E7, *]<;>rfl))
theorem jr6 (a0:ar)(a1:GEv):∀(x:Option (Nat)) (r) (h:Ej a0 a1 x=En r),jw pr xw (E6 a0 a1) (E7 a0 a1) x r
 |none,r,h=>jmy a0 a1 r h
 |some x,r,h=>jn1 a0 a1 x r h
theorem jcj (a0:ar)(a1:GEv){s0 d}(h:bB (Ej a0 a1) s0=En d):X pr (.loop xw) (E6 a0 a1 s0)=En (E7 a0 a1 d):=ze (jr6 a0 a1) h
def fp (k:Nat)(a0:ar)(a1:GEv):Option (Int×ar):=
 bif Gd k 168 then qa (HT a1 a0.day a0.au a0.ae a0.units) fun v=>En (v.1,{ a0 with au:=v.2.1 })else
 bif Gd k 169 then qa (f169 a1 a0.day a0.au a0.ae a0.units) fun v=>En (v.1,{ a0 with ae:=v.2.1 })else
 bif Gd k 170 then qa (f170 a1 a0.day a0.au a0.ae a0.units) fun v=>En (v.1,{ a0 with ae:=v.2 })else
 bif Gd k 171 then qa (f171 a1 a0.day a0.au a0.ae a0.units) fun v=>En (v.1,{ a0 with ae:=v.2 })else
 bif Gd k 172 then qa (H0 a1 a0.day a0.au a0.ae a0.units) fun v=>En (v.1,{ a0 with ae:=v.2 })else
 bif Gd k 173 then qa (HU a1 a0.day a0.au a0.ae a0.units) fun v=>En (v.1,{ a0 with units:=v.2.1 })else
 bif Gd k 175 then qa (H7 a1 a0.day a0.au a0.ae a0.units) fun v=>En (v.1,{ a0 with units:=v.2 })else
 bif Gd k 176 then qa (H4 a1 a0.day a0.au a0.ae a0.units) fun v=>En (v.1,{ a0 with units:=v.2 })else
 bif Gd k 177 then qa (Ia a1 a0.day a0.au a0.ae a0.units) fun v=>En (v.1,{ a0 with units:=v.2 })else
 bif Gd k 178 then qa (H2 a1 a0.day a0.au a0.ae a0.units) fun v=>En (v.1,{ a0 with au:=v.2 })else
 bif Gd k 179 then qa (H3 a1 a0.day a0.au a0.ae a0.units) fun v=>En (v.1,{ a0 with au:=v.2 })else
 bif Gd k 180 then qa (H5 a1 a0.day a0.au a0.ae a0.units) fun v=>En (v.1,{ a0 with units:=v.2 })else
 bif Gd k 181 then qa (H6 a1 a0.day a0.au a0.ae a0.units) fun v=>En (v.1,{ a0 with units:=v.2 })else
 bif Gd k 174 then qa (H8 a1 a0.day a0.au a0.ae a0.units) fun v=>En (v.1,{ a0 with au:=v.2.1,units:=v.2.2 })else Ga
theorem jjp {k a0 a1 x1 x2 x3 v}(h:fp k a0 a1=En v):
  (∃w1 w2 w3:Bool,qm pr (X pr) k [.ptr 0 0,aE a1] [.cells [(Iv a0.day,I),(sl 5 jd a0.au,I),(sl 4 qu a0.ae,I),(sl 8 bI a0.units,I)],x1,x2,x3]=En (Iv v.1,I,[.cells [(Iv v.2.day,I),(sl 5 jd v.2.au,w1),(sl 4 qu v.2.ae,w2),(sl 8 bI v.2.units,w3)],x1,x2,x3])∧v.2.day=a0.day) ∨
  (v.1=0∧v.2.day=a0.day∧∃(n:Nat) (b:bg) (cs:List (AVal×Bool)),qm pr (X pr) k [.ptr 0 0,aE a1] [.cells [(Iv a0.day,I),(sl 5 jd a0.au,I),(sl 4 qu a0.ae,I),(sl 8 bI a0.units,I)],x1,x2,x3]=En (Iv 0,I,[.cells [(Iv v.2.day,I),(sl 5 jd v.2.au,I),(sl 4 qu v.2.ae,I),(.ms 5 0 n,I)],x1,x2,x3,b,.cells cs])∧cs.map (·.1)=j8 bI (v.2.units.getD [])∧n=(v.2.units.getD []).length∧0<n∧v.2.units.isSome=Ge):=by
 unfold fp at h
 rw[E9]at h
 split at h
 ·rename_i hk
  rw[Es hk]
  obtain⟨y,hy,h⟩:=qb h
  cases h
  exact .inl ⟨y.2.2,I,I,zi0 hy,rfl⟩
 rw[E9]at h
 split at h
 ·rename_i hk
  rw[Es hk]
  obtain⟨y,hy,h⟩:=qb h
  cases h
  exact .inl ⟨I,y.2.2,I,zbq hy,rfl⟩
 rw[E9]at h
 split at h
 ·rename_i hk
  rw[Es hk]
  obtain⟨y,hy,h⟩:=qb h
  cases h
  exact .inl ⟨I,I,I,zhh hy,rfl⟩
 rw[E9]at h
 split at h
 ·rename_i hk
  rw[Es hk]
  obtain⟨y,hy,h⟩:=qb h
  cases h
  exact .inl ⟨I,I,I,zd8 hy,rfl⟩
 rw[E9]at h
 split at h
 ·rename_i hk
  rw[Es hk]
  obtain⟨y,hy,h⟩:=qb h
  cases h
  exact .inl ⟨I,I,I,ziy hy,rfl⟩
 rw[E9]at h
 split at h
 ·rename_i hk
  rw[Es hk]
  obtain⟨y,hy,h⟩:=qb h
  cases h
  exact .inl ⟨I,I,y.2.2,zgt hy,rfl⟩
 rw[E9]at h
 split at h
 ·rename_i hk
  rw[Es hk]
  obtain⟨y,hy,h⟩:=qb h
  cases h
  exact .inl ⟨I,I,I,zhf hy,rfl⟩
 rw[E9]at h
 split at h
 ·rename_i hk
  rw[Es hk]
  obtain⟨y,hy,h⟩:=qb h
  cases h
  exact .inl ⟨I,I,I,zbl hy,rfl⟩
 rw[E9]at h
 split at h
 ·rename_i hk
  rw[Es hk]
  obtain⟨y,hy,h⟩:=qb h
  cases h
  exact .inl ⟨I,I,I,zdr hy,rfl⟩
 rw[E9]at h
 split at h
 ·rename_i hk
  rw[Es hk]
  obtain⟨y,hy,h⟩:=qb h
  cases h
  exact .inl ⟨I,I,I,zeg hy,rfl⟩
 rw[E9]at h
 split at h
 ·rename_i hk
  rw[Es hk]
  obtain⟨y,hy,h⟩:=qb h
  cases h
  exact .inl ⟨I,I,I,zgc hy,rfl⟩
 rw[E9]at h
 split at h
 ·rename_i hk
  rw[Es hk]
  obtain⟨y,hy,h⟩:=qb h
  cases h
  exact .inl ⟨I,I,I,zbw hy,rfl⟩
 rw[E9]at h
 split at h
 ·rename_i hk
  rw[Es hk]
  obtain⟨y,hy,h⟩:=qb h
  cases h
  exact .inl ⟨I,I,I,zch hy,rfl⟩
 rw[E9]at h
 split at h
 ·rename_i hk
  rw[Es hk]
  obtain⟨y,hy,h⟩:=qb h
  cases h
  rcases zd0 (x1:=x1) (x2:=x2) (x3:=x3) hy with⟨h1,h2,h3⟩|⟨h1,n,b,cs,h2,h3,h4,h5⟩
  ·refine .inl ⟨I,I,I,?_,rfl⟩
   rcases y with⟨y1,y2⟩
   cases h2
   exact h3
  ·refine .inr ⟨h1,rfl,n,b,cs,h2,h3,h4,h5,?_⟩
   show y.2.2.isSome=Ge
   cases hu:y.2.2 with
   |some _=>rfl
   |none=>rw[hu]at h4;simp at h4;omega
 ·cases h
def Ib (x:List UInt8):Nat:=match oS x with
 |some f=>f.2.2.2
 |none=>0
theorem jfo (x:List UInt8):l5 x=fnv (Ib x):=by
 unfold l5 Ib
 cases oS x<;>rfl
theorem jgx {k a0 a1 v}(h:fp k a0 a1=En v):fnv k=.fn (.func k) [] []:=by
 cases hk:Gd k 0 with
 |false=>simp only[fnv,hk,cond_false]
 |true=>rw[Es hk]at h;cases h
def jQ (a0:ar)(a1:GEv):Option (ar×Int):=
 qa (qq (a1.values.getD []) 0) fun v1=>
 cond (decide (v1<a0.day))
  (En (⟨0,Ga,Ga,Ga⟩,20))
  (qa (bB (Ej a0 a1) Ga) fun d48=>match d48 with
   | .inl d50=>
    En (⟨0,Ga,Ga,Ga⟩,10)
   | .inr d51=>
    qa (fp (Ib a1.kind) a0 a1) fun v=>
    cond (decide (v.1=0))
     (En ({ v.2 with day:=v1 },0))
     (En (⟨0,Ga,Ga,Ga⟩,v.1)))
theorem E2 {a0 a1 r}(h:jQ a0 a1=En r):qc pr (X pr) 113 [aR a0,aE a1]=En (.aI [aR r.1,Iv r.2],I):=by
 unfold jQ at h
 obtain⟨v1,h2,h⟩:=qb h
 rcases qd h with⟨h3,h⟩|⟨h3,h⟩
 ·have hr:(⟨0,Ga,Ga,Ga⟩,20)=r:=En.inj h
  subst hr
  have this:∃hh,qm pr (X pr) 113 [aR a0,aE a1] []=En (.aI [aZ,Iv 20],I,hh):=by
   rw[qj (show pr.bG 113=En gR from rfl) (by simp)]
   simp only[go_sem,seval,gR,zh h2,h3]
   exact⟨_,rfl⟩
  obtain⟨hh,this⟩:=this
  exact zx rfl this (by first|rfl|simp only[go_sem,seval]) (by first|rfl|simp only[go_sem,seval])
 ·obtain⟨d48,PU,h⟩:=qb h
  rcases d48 with d50|d51
  ·have pk:X pr (.loop xw) ⟨[(2,.ptr 0 0,I),(3,.ai (aE a1),I),(4,.ptr 1 0,I),(6,.ai (.agg [.str (j6 a1.kind),Iv (nB a1.kind),l5 a1.kind]),I),(24,.ptr 3 0,I)],[kR a0.day a0.au a0.ae a0.units,kZ,.map qz,.iter (j6 a1.kind) 0]⟩=En (.ret,⟨[(4,.ptr 1 0,I),(5,Iv 10,I)],[kR a0.day a0.au a0.ae a0.units,kZ,.map qz,.iter (j6 a1.kind) d50]⟩):=jcj a0 a1 PU
   have hr:(⟨0,Ga,Ga,Ga⟩,10)=r:=En.inj h
   subst hr
   have this:∃hh,qm pr (X pr) 113 [aR a0,aE a1] []=En (.aI [aZ,Iv 10],I,hh):=by
    rw[qj (show pr.bG 113=En gR from rfl) (by simp)]
    simp only[go_sem,seval,gR,zh h2,h3,LI,pk]
    exact⟨_,rfl⟩
   obtain⟨hh,this⟩:=this
   exact zx rfl this (by first|rfl|simp only[go_sem,seval]) (by first|rfl|simp only[go_sem,seval])
  ·have pk:X pr (.loop xw) ⟨[(2,.ptr 0 0,I),(3,.ai (aE a1),I),(4,.ptr 1 0,I),(6,.ai (.agg [.str (j6 a1.kind),Iv (nB a1.kind),l5 a1.kind]),I),(24,.ptr 3 0,I)],[kR a0.day a0.au a0.ae a0.units,kZ,.map qz,.iter (j6 a1.kind) 0]⟩=En (.exit 0,⟨[(2,.ptr 0 0,I),(3,.ai (aE a1),I),(4,.ptr 1 0,I),(6,.ai (.agg [.str (j6 a1.kind),Iv (nB a1.kind),l5 a1.kind]),I),(24,.ptr 3 0,I),(25,.aI [.bool I],I),(26,.bool I,I)],[kR a0.day a0.au a0.ae a0.units,kZ,.map qz,.iter (j6 a1.kind) d51]⟩):=jcj a0 a1 PU
   obtain⟨v,hv,h⟩:=qb h
   have hfn:l5 a1.kind=.fn (.func (Ib a1.kind)) [] []:=by rw[jfo];exact jgx hv
   simp only[hfn]at pk
   have af:∀(n:Int) (b:bg),jp 4 (Iv n) [b,kZ,.map qz,.iter (j6 a1.kind) d51]=[b,kZ,.map qz,.iter (j6 a1.kind) d51]:=fun _ _=>ya rfl
   rcases jjp (x1:=kZ) (x2:=.map qz) (x3:=.iter (j6 a1.kind) d51) hv with⟨w1,w2,w3,g,hd⟩|⟨h0,hd,n,b,cs,g,g2,hn,gI,hs⟩
   ·rcases qd h with⟨h5,h⟩|⟨h5,h⟩
    ·cases h
     have this:∃hh,qm pr (X pr) 113 [aR a0,aE a1] []=En (.aI [aG v1 v.2.au v.2.ae v.2.units,Iv 0],I,hh):=by
      rw[qj (show pr.bG 113=En gR from rfl) (by simp)]
      simp only[go_sem,seval,gR,zh h2,h3,LI,pk,hfn,g,af,h5]
      exact⟨_,rfl⟩
     obtain⟨hh,this⟩:=this
     exact zx rfl this (by first|rfl|simp only[go_sem,seval]) (by first|rfl|simp only[go_sem,seval])
    ·cases h
     have this:∃hh,qm pr (X pr) 113 [aR a0,aE a1] []=En (.aI [aZ,Iv v.1],I,hh):=by
      rw[qj (show pr.bG 113=En gR from rfl) (by simp)]
      simp only[go_sem,seval,gR,zh h2,h3,LI,pk,hfn,g,af,h5]
      exact⟨_,rfl⟩
     obtain⟨hh,this⟩:=this
     exact zx rfl this (by first|rfl|simp only[go_sem,seval]) (by first|rfl|simp only[go_sem,seval])
   ·have h5:decide (v.1=0)=Ge:=decide_eq_true h0
    rw[h5]at h
    cases h
    have ab:∀(n:Int) (c:bg),jp 4 (Iv n) [c,kZ,.map qz,.iter (j6 a1.kind) d51,b,.cells cs]=(bif po 4 c&&zk 4 [kZ,.map qz,.iter (j6 a1.kind) d51]then [c,kZ,.map qz,.iter (j6 a1.kind) d51]else [c,kZ,.map qz,.iter (j6 a1.kind) d51,b,.cells cs]):=fun _ _=>rfl
    have this:qm pr (X pr) 113 [aR a0,aE a1] []=En (.aI [.agg [Iv v1,sl 5 jd v.2.au,sl 4 qu v.2.ae,.ms 5 0 n],Iv 0],I,[.cells [(Iv v1,I),(sl 5 jd v.2.au,I),(sl 4 qu v.2.ae,I),(.ms 5 0 n,I)],.cells [(Iv v1,I),(sl 5 jd v.2.au,I),(sl 4 qu v.2.ae,I),(.ms 5 0 n,I)],.map qz,.iter (j6 a1.kind) d51,b,.cells cs]):=by
     rw[qj (show pr.bG 113=En gR from rfl) (by simp)]
     simp only[go_sem,seval,gR,zh h2,h3,LI,pk,hfn,g,(show ∀n,below 4 (.ms 5 0 n)=I from fun _=>rfl),Bool.false_and,Bool.and_false,cond_false]<;>rfl
    have fz:kq [.cells [(Iv v1,I),(sl 5 jd v.2.au,I),(sl 4 qu v.2.ae,I),(.ms 5 0 n,I)],.cells [(Iv v1,I),(sl 5 jd v.2.au,I),(sl 4 qu v.2.ae,I),(.ms 5 0 n,I)],.map qz,.iter (j6 a1.kind) d51,b,.cells cs] (.ms 5 0 n)=En (sl 8 bI v.2.units):=by
     have hu:v.2.units=En (v.2.units.getD []):=by cases hq:v.2.units with
      |some _=>rfl
      |none=>rw[hq]at hs;cases hs
     rw[hn]at gI ⊢
     rw[hu]
     exact vJ en gI g2
    refine zx rfl this (v':=.aI [aG v1 v.2.au v.2.ae v.2.units,Iv 0]) ?_ (by first|rfl|simp only[go_sem,seval])
    simp only[go_sem,seval,fz]<;>rfl
end Go.Z
end
