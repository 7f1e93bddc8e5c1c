/- Chapter 10. -/
import Derived.Test.YtimdocpnkimlfaaGreatDoorV0
set_option linter.unusedVariables false
set_option linter.unusedSimpArgs false
set_option maxRecDepth 100000
set_option maxHeartbeats 4000000
noncomputable section
open Bool renaming false→I,cond_eq_ite→Ga,true→Gg
open Option renaming some→En,none→Gc,isNone_none→Gh
open Nat renaming eq_of_beq_eq_true→E3,beq→Gd
namespace Go.Z
open Go Go.Abs Go.W
def Ev (a0:au)(a1:GEv):Option (au×Int):=
 qa (qq (a1.names.getD []) 0) fun v1=>
 qa (wO a0 v1) fun v3=>
 cond (decide (v3<0))
  (En (a0,10))
  (qa (qq (a0.ar.getD []) v3) fun v6=>
  cond (decide (a1.kind=([104,111,108,100]:List UInt8)))
   (cond v6.held
    (En (a0,34))
    (cond (decide (a1.kind=([102,114,101,101]:List UInt8)))
     (En (a0,20))
     (qa (zE a0 v3 (⟨v6.name,v6.kind,v6.count,v6.left,Gg⟩)) fun v11=>
     En (v11,0))))
   (cond (decide (a1.kind=([102,114,101,101]:List UInt8)))
    (cond v6.held
     (qa (zE a0 v3 (⟨v6.name,v6.kind,v6.count,v6.left,I⟩)) fun fk=>
     En (fk,0))
     (En (a0,20)))
    (qa (zE a0 v3 (⟨v6.name,v6.kind,v6.count,v6.left,I⟩)) fun ew=>
    En (ew,0))))
theorem zf3 {a0 a1 r}(h:Ev a0 a1=En r):qc pr (X pr) 201 [aR a0,aE a1]=En (.aC [aR r.1,Iv r.2],I):=by
 unfold Ev at h
 refine zi uG ?_
 repeat' first|(replace h:=qb h;obtain⟨d,g,h⟩:=h;with_reducible first|replace g:=Jz g|replace g:=jtx g|skip)|(replace h:=qd h;rcases h with⟨g,h⟩|⟨g,h⟩)
 all_goals (cases h<;>(simp only[go_sem,seval,uG,jh, *];exact⟨_,rfl⟩))
def zG (a0:au)(a1:GEv):Option (au×Int):=
 qa (qq (a1.names.getD []) 0) fun v1=>
 qa (wP a0 v1) fun v3=>
 cond (decide (v3<0))
  (En (a0,10))
  (qa (qq (a0.ae.getD []) v3) fun v6=>
  cond (decide (a1.kind=([110,101,101,100]:List UInt8)))
   (qa (qq (a1.values.getD []) 1) fun v9=>
   cond (decide (10000<v9))
    (En (a0,3))
    (qa (qq (a1.names.getD []) 1) fun v12=>
    qa (HW v6.dn (⟨v12,v9⟩)) fun ef=>
    cond ef.2
     (cond (decide (16<((ef.1.getD []).length:Int)))
      (En (a0,5))
      (qa (zF a0 v3 (⟨v6.name,ef.1,v6.dt,v6.aW⟩)) fun jE=>
      En (jE,0)))
     (cond (decide (16<((ef.1.getD []).length:Int)))
      (En (a0,5))
      (qa (zF a0 v3 (⟨v6.name,ef.1,v6.dt,v6.aW⟩)) fun v21=>
      En (v21,0)))))
   (cond (decide (a1.kind=([116,101,115,116]:List UInt8)))
    (qa (qq (a1.values.getD []) 2) fun v24=>
    qa (qq (a1.values.getD []) 1) fun v26=>
    cond (decide (v24<v26))
     (En (a0,11))
     (qa (qq (a1.names.getD []) 1) fun fb=>
     qa (f260 v6.dt (⟨fb,v26,v24⟩)) fun v31=>
     cond v31.2
      (cond (decide (16<((v31.1.getD []).length:Int)))
       (En (a0,5))
       (qa (zF a0 v3 (⟨v6.name,v6.dn,v31.1,v6.aW⟩)) fun tm=>
       En (tm,0)))
      (cond (decide (16<((v31.1.getD []).length:Int)))
       (En (a0,5))
       (qa (zF a0 v3 (⟨v6.name,v6.dn,v31.1,v6.aW⟩)) fun Cf=>
       En (Cf,0)))))
    (cond (decide (((v6.dn.getD []).length:Int)=0))
     (En (a0,12))
     (cond (decide (100≤((v6.aW.getD []).length:Int)))
      (En (a0,5))
      (qa (bH (En []) (v6.aW.getD [])) fun Jy=>
      qa (bH Jy [⟨v6.dn,v6.dt⟩]) fun Ch=>
      qa (zF a0 v3 (⟨v6.name,v6.dn,v6.dt,Ch⟩)) fun v46=>
      En (v46,0))))))
theorem zch {a0 a1 r}(h:zG a0 a1=En r):qc pr (X pr) 200 [aR a0,aE a1]=En (.aC [aR r.1,Iv r.2],I):=by
 unfold zG at h
 refine zi xC ?_
 repeat' first|(replace h:=qb h;obtain⟨d,g,h⟩:=h;with_reducible first|replace g:=N4 g|replace g:=zeo g|replace g:=zc6 g|replace g:=zb5 g|replace g:=q8t g|skip)|(replace h:=qd h;rcases h with⟨g,h⟩|⟨g,h⟩)
 all_goals (cases h<;>(simp only[go_sem,seval,xC,jh,kx, *];exact⟨_,rfl⟩))
def zH (a0:au)(a1:Int)(a2:GEv)(v1:aY)(v5:Int)(v8:ja)(fk:bY)(s0:Bool×Int):Option ((Bool×Int)⊕((Bool×Int))):=
 cond (decide (s0.2<((fk.aM.getD []).length:Int)))
  (cond s0.1
   (En (.inl (Gg,qe .i64 (s0.2+1))))
   (qa (qq (fk.aM.getD []) s0.2) fun v26=>
   En (.inl (decide (v26.k=v8.kind),qe .i64 (s0.2+1)))))
  (En (.inr (s0.1,s0.2)))
def P2 (a0:au)(a1:Int)(a2:GEv)(v1:aY)(v5:Int)(v8:ja)(fk:bY)(s0:Bool×Int):bf:=⟨[(1,Iv a1,I),(3,.ah (aR a0),I),(5,.ah (aE a2),I),(6,.ptr 0 0,I),(8,.ptr 1 0,I),(9,Iv v5,I),(10,.ptr 2 0,I),(11,.ah (aD fk),I),(12,.bool s0.1,I),(13,Iv s0.2,I)],[kZ,.cells [(.str v1.name,I),(.str v1.product,I),(Iv v1.version,I),(sl 2 bm v1.uses,I),(sl 3 q9 v1.results,I),(.str v1.partner,I),(.bool I,I),(Iv v1.ak,I)],.cells [(.str v8.name,I),(.str v8.kind,I),(Iv v8.count,I),(Iv v8.left,I),(.bool I,I)]]⟩
def P3 (a0:au)(a1:Int)(a2:GEv)(v1:aY)(v5:Int)(v8:ja)(fk:bY)(d:(Bool×Int)):jg×bf:=(.exit 0,⟨[(1,Iv a1,I),(3,.ah (aR a0),I),(5,.ah (aE a2),I),(6,.ptr 0 0,I),(8,.ptr 1 0,I),(9,Iv v5,I),(10,.ptr 2 0,I),(11,.ah (aD fk),I),(12,.bool d.1,I),(13,Iv d.2,I),(52,.bool I,I)],[kZ,.cells [(.str v1.name,I),(.str v1.product,I),(Iv v1.version,I),(sl 2 bm v1.uses,I),(sl 3 q9 v1.results,I),(.str v1.partner,I),(.bool I,I),(Iv v1.ak,I)],.cells [(.str v8.name,I),(.str v8.kind,I),(Iv v8.count,I),(Iv v8.left,I),(.bool I,I)]]⟩)
theorem jwv (a0:au)(a1:Int)(a2:GEv)(v1:aY)(v5:Int)(v8:ja)(fk:bY)(s0:Bool×Int)(r)(h:zH a0 a1 a2 v1 v5 v8 fk s0=En r):jz pr P4 (P2 a0 a1 a2 v1 v5 v8 fk) (P3 a0 a1 a2 v1 v5 v8 fk) s0 r:=by
 unfold zH at h
 repeat' first|(replace h:=qb h;obtain⟨d,g,h⟩:=h)|(replace h:=qd h;rcases h with⟨g,h⟩|⟨g,h⟩)
 all_goals (cases h<;>((first|refine qz ?_|refine ju ?_);simp only[go_sem,seval,P4,P2,jh,P3, *]<;>rfl))
theorem jty (a0:au)(a1:Int)(a2:GEv)(v1:aY)(v5:Int)(v8:ja)(fk:bY){s0 d}(h:bz (zH a0 a1 a2 v1 v5 v8 fk) s0=En d):X pr (.loop P4) (P2 a0 a1 a2 v1 v5 v8 fk s0)=En (P3 a0 a1 a2 v1 v5 v8 fk d):=zn (jwv a0 a1 a2 v1 v5 v8 fk) h
def f263 (a0:au)(a1:Int)(a2:GEv):Option (au×Int):=
 qa (qq (a0.units.getD []) a1) fun v1=>
 qa (qq (a2.names.getD []) 1) fun v3=>
 qa (wO a0 v3) fun v5=>
 cond (decide (v5<0))
  (En (a0,10))
  (qa (qq (a0.ar.getD []) v5) fun v8=>
  cond v1.aj
   (En (a0,21))
   (qa (qq (a2.values.getD []) 1) fun v11=>
   cond (decide (v11=0))
    (En (a0,3))
    (cond v8.held
     (En (a0,34))
     (qa (pR a0 (⟨v1.name,v1.product,v1.version,v1.uses,v1.results,v1.partner,I,v1.ak⟩)) fun fk=>
     qa (bz (zH a0 a1 a2 v1 v5 v8 fk) (I,0)) fun d28=>
     cond d28.1
      (cond (decide (v8.left<v11))
       (En (a0,4))
       (qa (HX v1.uses v8.name v11) fun lD=>
       cond lD.2
        (qa (zE a0 v5 (⟨v8.name,v8.kind,v8.count,qe .i64 (v8.left-v11),I⟩)) fun tm=>
        qa (f267 tm a1 (⟨v1.name,v1.product,v1.version,lD.1,v1.results,v1.partner,I,v1.ak⟩)) fun v37=>
        En (v37,0))
        (qa (zE a0 v5 (⟨v8.name,v8.kind,v8.count,qe .i64 (v8.left-v11),I⟩)) fun qD=>
        qa (f267 qD a1 (⟨v1.name,v1.product,v1.version,lD.1,v1.results,v1.partner,I,v1.ak⟩)) fun Cg=>
        En (Cg,0))))
      (En (a0,7))))))
theorem zki {a0 a1 a2 r}(h:f263 a0 a1 a2=En r):qc pr (X pr) 263 [aR a0,Iv a1,aE a2]=En (.aC [aR r.1,Iv r.2],I):=by
 unfold f263 at h
 refine zi uH ?_
 repeat' first|(replace h:=qb h;obtain⟨d,g,h⟩:=h;with_reducible first|replace g:=Jz g|replace g:=Pj g|replace g:=zce g|replace g:=jtx g|replace g:=X9 g|(replace g:=jty a0 a1 a2 _ _ _ _ g;dsimp only[P2,P3,zm]at g h)|skip)|(replace h:=qd h;rcases h with⟨g,h⟩|⟨g,h⟩)
 all_goals (cases h<;>(simp only[go_sem,seval,uH,jh, *];exact⟨_,rfl⟩))
def f264 (a0:au)(a1:Int)(a2:GEv):Option (au×Int):=
 qa (qq (a0.units.getD []) a1) fun v1=>
 qa (qq (a2.names.getD []) 1) fun v3=>
 qa (Bh a0 v3) fun v5=>
 cond (decide (v5<0))
  (En (a0,10))
  (qa (qq (a0.units.getD []) v5) fun v8=>
  cond (decide (v5=a1))
   (En (a0,9))
   (cond (decide (v1.product=v8.product))
    (cond (decide (v1.version=v8.version))
     (cond v1.aj
      (En (a0,21))
      (cond v8.aj
       (En (a0,21))
       (cond (decide (v1.partner=[]))
        (cond (decide (v8.partner=[]))
         (qa (f267 a0 a1 (⟨v1.name,v1.product,v1.version,v1.uses,v1.results,v8.name,I,v1.ak⟩)) fun ew=>
         qa (f267 ew v5 (⟨v8.name,v8.product,v8.version,v8.uses,v8.results,v1.name,I,v8.ak⟩)) fun l4=>
         En (l4,0))
         (En (a0,35)))
        (En (a0,35)))))
     (En (a0,30)))
    (En (a0,30))))
theorem zd9 {a0 a1 a2 r}(h:f264 a0 a1 a2=En r):qc pr (X pr) 264 [aR a0,Iv a1,aE a2]=En (.aC [aR r.1,Iv r.2],I):=by
 unfold f264 at h
 refine zi uI ?_
 repeat' first|(replace h:=qb h;obtain⟨d,g,h⟩:=h;with_reducible first|replace g:=Yc g|replace g:=X9 g|skip)|(replace h:=qd h;rcases h with⟨g,h⟩|⟨g,h⟩)
 all_goals (cases h<;>(simp only[go_sem,seval,uI,jh, *];exact⟨_,rfl⟩))
def zI (a0:au)(a1:GEv)(v3:Int)(v6:aY)(dD:bY)(s0:Bool×Int):Option ((Bool×Int)⊕((Bool×Int))):=
 cond (decide (s0.2<((dD.aH.getD []).length:Int)))
  (cond s0.1
   (En (.inl (Gg,qe .i64 (s0.2+1))))
   (qa (qq (dD.aH.getD []) s0.2) fun v31=>
   qa (qq (a1.names.getD []) 1) fun l6=>
   En (.inl (decide (v31.k=l6),qe .i64 (s0.2+1)))))
  (En (.inr (s0.1,s0.2)))
def P5 (a0:au)(a1:GEv)(v3:Int)(v6:aY)(dD:bY)(s0:Bool×Int):bf:=⟨[(2,.ah (aR a0),I),(3,.ah (aE a1),I),(4,.ptr 0 0,I),(6,Iv v3,I),(7,.ptr 1 0,I),(8,.ah (aD dD),I),(9,.bool s0.1,I),(10,Iv s0.2,I)],[kZ,.cells [(.str v6.name,I),(.str v6.product,I),(Iv v6.version,I),(sl 2 bm v6.uses,I),(sl 3 q9 v6.results,I),(.str v6.partner,I),(.bool I,I),(Iv v6.ak,I)]]⟩
def P6 (a0:au)(a1:GEv)(v3:Int)(v6:aY)(dD:bY)(d:(Bool×Int)):jg×bf:=(.exit 1,⟨[(2,.ah (aR a0),I),(3,.ah (aE a1),I),(4,.ptr 0 0,I),(6,Iv v3,I),(7,.ptr 1 0,I),(8,.ah (aD dD),I),(9,.bool d.1,I),(10,Iv d.2,I),(64,.bool I,I)],[kZ,.cells [(.str v6.name,I),(.str v6.product,I),(Iv v6.version,I),(sl 2 bm v6.uses,I),(sl 3 q9 v6.results,I),(.str v6.partner,I),(.bool I,I),(Iv v6.ak,I)]]⟩)
theorem jwx (a0:au)(a1:GEv)(v3:Int)(v6:aY)(dD:bY)(s0:Bool×Int)(r)(h:zI a0 a1 v3 v6 dD s0=En r):jz pr P7 (P5 a0 a1 v3 v6 dD) (P6 a0 a1 v3 v6 dD) s0 r:=by
 unfold zI at h
 repeat' first|(replace h:=qb h;obtain⟨d,g,h⟩:=h)|(replace h:=qd h;rcases h with⟨g,h⟩|⟨g,h⟩)
 all_goals (cases h<;>((first|refine qz ?_|refine ju ?_);simp only[go_sem,seval,P7,P5,jh,P6, *]<;>rfl))
theorem juf (a0:au)(a1:GEv)(v3:Int)(v6:aY)(dD:bY){s0 d}(h:bz (zI a0 a1 v3 v6 dD) s0=En d):X pr (.loop P7) (P5 a0 a1 v3 v6 dD s0)=En (P6 a0 a1 v3 v6 dD d):=zn (jwx a0 a1 v3 v6 dD) h
def Ey (a0:au)(a1:GEv):Option (au×Int):=
 qa (qq (a1.names.getD []) 0) fun v1=>
 qa (Bh a0 v1) fun v3=>
 cond (decide (v3<0))
  (En (a0,10))
  (qa (qq (a0.units.getD []) v3) fun v6=>
  cond (decide (a1.kind=([117,115,101]:List UInt8)))
   (qa (f263 a0 v3 a1) fun v9=>
   En (v9.1,v9.2))
   (cond (decide (a1.kind=([112,97,105,114]:List UInt8)))
    (qa (f264 a0 v3 a1) fun v12=>
    En (v12.1,v12.2))
    (cond (decide (a1.kind=([109,101,97,115,117,114,101]:List UInt8)))
     (cond v6.aj
      (En (a0,21))
      (qa (pR a0 (⟨v6.name,v6.product,v6.version,v6.uses,v6.results,v6.partner,I,v6.ak⟩)) fun dD=>
      qa (bz (zI a0 a1 v3 v6 dD) (I,0)) fun d35=>
      cond d35.1
       (cond (decide (64≤((v6.results.getD []).length:Int)))
        (En (a0,5))
        (qa (bH (En []) (v6.results.getD [])) fun qD=>
        qa (qq (a1.names.getD []) 1) fun Cg=>
        qa (qq (a1.values.getD []) 1) fun JA=>
        qa (bH qD [⟨Cg,v6.version,JA⟩]) fun zU=>
        qa (f267 a0 v3 (⟨v6.name,v6.product,v6.version,v6.uses,zU,v6.partner,I,v6.ak⟩)) fun v47=>
        En (v47,0)))
       (En (a0,7))))
     (cond (decide (a1.kind=([117,112,100,97,116,101]:List UInt8)))
      (cond v6.aj
       (En (a0,21))
       (qa (Ef a0 (⟨v6.name,v6.product,v6.version,v6.uses,v6.results,v6.partner,I,v6.ak⟩)) fun v51=>
       cond (decide (v6.version=v51))
        (En (a0,32))
        (qa (f267 a0 v3 (⟨v6.name,v6.product,v51,v6.uses,v6.results,v6.partner,I,v6.ak⟩)) fun N7=>
        En (N7,0))))
      (cond (decide (a1.kind=([115,104,105,112]:List UInt8)))
       (qa (f266 a0 v6) fun N8=>
       cond (decide (N8=0))
        (qa (f267 a0 v3 (⟨v6.name,v6.product,v6.version,v6.uses,v6.results,v6.partner,Gg,v6.ak⟩)) fun v60=>
        En (v60,0))
        (En (a0,N8)))
       (cond v6.aj
        (qa (f267 a0 v3 (⟨v6.name,v6.product,v6.version,v6.uses,v6.results,v6.partner,Gg,qe .i64 (v6.ak+1)⟩)) fun v63=>
        En (v63,0))
        (En (a0,20))))))))
theorem zf1 {a0 a1 r}(h:Ey a0 a1=En r):qc pr (X pr) 202 [aR a0,aE a1]=En (.aC [aR r.1,Iv r.2],I):=by
 unfold Ey at h
 refine zi xD ?_
 repeat' first|(replace h:=qb h;obtain⟨d,g,h⟩:=h;with_reducible first|replace g:=Yc g|replace g:=zki g|replace g:=zd9 g|replace g:=Pj g|replace g:=X9 g|replace g:=jr7 g|replace g:=zjb g|replace g:=D9 g|(replace g:=juf a0 a1 _ _ _ g;dsimp only[P5,P6,zm]at g h)|skip)|(replace h:=qd h;rcases h with⟨g,h⟩|⟨g,h⟩)
 all_goals (cases h<;>(simp only[go_sem,seval,xD,jh,kx, *];exact⟨_,rfl⟩))
def Ik (a0:au)(a1:GEv):Option (au×Int):=
 qa (qq (a1.values.getD []) 0) fun v1=>
 cond (decide (v1<a0.day))
  (En (a0,20))
  (cond (decide (a1.kind=([108,111,116]:List UInt8)))
   (qa (sg a0 a1) fun v5=>
   En (⟨v1,v5.1.ar,v5.1.ae,v5.1.units⟩,v5.2))
   (cond (decide (a1.kind=([112,114,111,100,117,99,116]:List UInt8)))
    (qa (sg a0 a1) fun v8=>
    En (⟨v1,v8.1.ar,v8.1.ae,v8.1.units⟩,v8.2))
    (cond (decide (a1.kind=([98,117,105,108,100]:List UInt8)))
     (qa (sg a0 a1) fun v11=>
     En (⟨v1,v11.1.ar,v11.1.ae,v11.1.units⟩,v11.2))
     (cond (decide (a1.kind=([110,101,101,100]:List UInt8)))
      (qa (zG a0 a1) fun ef=>
      En (⟨v1,ef.1.ar,ef.1.ae,ef.1.units⟩,ef.2))
      (cond (decide (a1.kind=([116,101,115,116]:List UInt8)))
       (qa (zG a0 a1) fun ew=>
       En (⟨v1,ew.1.ar,ew.1.ae,ew.1.units⟩,ew.2))
       (cond (decide (a1.kind=([105,115,115,117,101]:List UInt8)))
        (qa (zG a0 a1) fun v20=>
        En (⟨v1,v20.1.ar,v20.1.ae,v20.1.units⟩,v20.2))
        (cond (decide (a1.kind=([104,111,108,100]:List UInt8)))
         (qa (Ev a0 a1) fun v23=>
         En (⟨v1,v23.1.ar,v23.1.ae,v23.1.units⟩,v23.2))
         (cond (decide (a1.kind=([102,114,101,101]:List UInt8)))
          (qa (Ev a0 a1) fun v26=>
          En (⟨v1,v26.1.ar,v26.1.ae,v26.1.units⟩,v26.2))
          (qa (Ey a0 a1) fun v28=>
          En (⟨v1,v28.1.ar,v28.1.ae,v28.1.units⟩,v28.2))))))))))
theorem zg6 {a0 a1 r}(h:Ik a0 a1=En r):qc pr (X pr) 145 [aR a0,aE a1]=En (.aC [aR r.1,Iv r.2],I):=by
 unfold Ik at h
 refine zi xE ?_
 repeat' first|(replace h:=qb h;obtain⟨d,g,h⟩:=h;with_reducible first|replace g:=zhm g|replace g:=zch g|replace g:=zf3 g|replace g:=zf1 g|skip)|(replace h:=qd h;rcases h with⟨g,h⟩|⟨g,h⟩)
 all_goals (cases h<;>(simp only[go_sem,seval,xE,jh, *];exact⟨_,rfl⟩))
end Go.Z
namespace Go.Z
open Go Go.Abs Go.W
def f47 (a0:GEv):Option Int:=
 qa (f60 a0.number 1 1000) fun v1=>
 qa (f48 (!(Ea a0.kind)) 13) fun v3=>
 qa (f48 (!(decide (((a0.names.getD []).length:Int)=((za a0.kind).length:Int))&&decide (((a0.values.getD []).length:Int)=(nI a0.kind)))) 2) fun v5=>
 qa (f46 (En [v1,v3,v5])) fun v7=>
 cond (decide (v7=0))
  (qa (Ip a0.names) fun v10=>
  qa (Ir a0.values) fun v12=>
  qa (f46 v10.1) fun ef=>
  qa (f46 v12.1) fun dD=>
  qa (f48 (!decide (a0.text=[])) 1) fun jE=>
  qa (f46 (En [ef,dD,jE])) fun v20=>
  En v20)
  (En v7)
theorem W47 {a0 r}(h:f47 a0=En r):qc pr (X pr) 47 [aE a0]=En (Iv r,I):=by
 unfold f47 at h
 refine zi J5 ?_
 repeat' first|(replace h:=qb h;obtain⟨d,g,h⟩:=h; (with_reducible first|replace g:=N5 g|replace g:=fP g|replace g:=l7 g|replace g:=zd1 g|replace g:=zfl g|skip);try dsimp only[zm,jB,List.map,zw,jd,jb,qu,bj,zh,vev,bm,q9,yd,aE,aR,aU,aL,aP,aD]at g)|(replace h:=qd h;rcases h with⟨g,h⟩|⟨g,h⟩)
 all_goals (cases h<;>(simp only[go_sem,seval,J5,jn2, *];exact⟨_,rfl⟩))
end Go.Z
namespace Go.Z
open Go Go.Abs Go.W
def pg (a0:Option (List GEv))(s0:(Option (List GEv))×(Option (List au))×Int×Bool×Bool):Option (((Option (List GEv))×(Option (List au))×Int×Bool×Bool)⊕((Int×Int×Int×(Option (List ja))×(Option (List aX))×(Option (List aY)))⊕((Option (List GEv))×Bool×(Option (List au))×Bool×Int))):=
 cond (decide (s0.2.2.1<((a0.getD []).length:Int)))
  (qa (qq (a0.getD []) s0.2.2.1) fun v75=>
  qa (f33 v75) fun v77=>
  cond (decide (v77=0))
   (cond (decide (v75.number=(qe .i64 (s0.2.2.1+1))))
    (cond (decide (v75.kind=([117,110,100,111]:List UInt8)))
     (cond (decide (((s0.1.getD []).length:Int)=0))
      (En (.inr (.inl (qe .i64 (s0.2.2.1+1),12,0,Gc,Gc,Gc))))
      (qa (qq (s0.1.getD []) (qe .i64 (((s0.1.getD []).length:Int)-1))) fun Yd=>
      cond (decide (Yd.kind=([115,104,105,112]:List UInt8)))
       (En (.inr (.inl (qe .i64 (s0.2.2.1+1),19,0,Gc,Gc,Gc))))
       (qa (yO s0.1 Gc (En (qe .i64 (((s0.1.getD []).length:Int)-1)))) fun v86=>
       qa (yO s0.2.1 Gc (En ((s0.1.getD []).length:Int))) fun Ye=>
       En (.inl (v86,Ye,qe .i64 (s0.2.2.1+1),I,I)))))
     (qa (qq (s0.2.1.getD []) ((s0.1.getD []).length:Int)) fun N9=>
     qa (Ik N9 v75) fun CA=>
     cond (decide (CA.2=0))
      (qa (bH (En []) (s0.1.getD [])) fun Yf=>
      qa (bH Yf [v75]) fun Yg=>
      qa (bH (En []) (s0.2.1.getD [])) fun Oa=>
      qa (bH Oa [CA.1]) fun Yw=>
      En (.inl (Yg,Yw,qe .i64 (s0.2.2.1+1),Gg,Gg)))
      (En (.inr (.inl (qe .i64 (s0.2.2.1+1),CA.2,CA.1.day,CA.1.ar,CA.1.ae,CA.1.units))))))
    (En (.inr (.inl (qe .i64 (s0.2.2.1+1),11,0,Gc,Gc,Gc)))))
   (En (.inr (.inl (qe .i64 (s0.2.2.1+1),v77,0,Gc,Gc,Gc)))))
  (En (.inr (.inr (s0.1,s0.2.2.2.1,s0.2.1,s0.2.2.2.2,s0.2.2.1))))
def zY (a0:Option (List GEv))(s0:(Option (List GEv))×(Option (List au))×Int×Bool×Bool):bf:=⟨[(0,sl 5 vev a0,I),(3,.ptr 0 0,I),(6,sl 5 vev s0.1,s0.2.2.2.1),(7,sl 4 zh s0.2.1,s0.2.2.2.2),(8,Iv s0.2.2.1,I)],[kZ]⟩
def E5 (a0:Option (List GEv)):(Int×Int×Int×(Option (List ja))×(Option (List aX))×(Option (List aY)))⊕((Option (List GEv))×Bool×(Option (List au))×Bool×Int)→jg×bf
 | .inl d=>(.ret,⟨[(2,Nl,I),(3,.ptr 0 0,I),(4,Iv d.1,I),(5,Iv d.2.1,I)],[kZ,.cells [(Iv d.2.2.1,I),(sl 5 jb d.2.2.2.1,I),(sl 4 qu d.2.2.2.2.1,I),(sl 8 bj d.2.2.2.2.2,I)]]⟩)
 | .inr d=>(.exit 0,⟨[(0,sl 5 vev a0,I),(3,.ptr 0 0,I),(6,sl 5 vev d.1,d.2.1),(7,sl 4 zh d.2.2.1,d.2.2.2.1),(8,Iv d.2.2.2.2,I),(21,.bool I,I)],[kZ]⟩)
theorem j8p (a0:Option (List GEv))(s0:(Option (List GEv))×(Option (List au))×Int×Bool×Bool)(r)(h:pg a0 s0=En r):jz pr E6 (zY a0) (E5 a0) s0 r:=by
 unfold pg at h
 repeat' first|(replace h:=qb h;obtain⟨d,g,h⟩:=h;with_reducible first|replace g:=W33 g|replace g:=zg6 g|replace g:=jxu g|replace g:=jsx g|replace g:=jq5 g|skip)|(replace h:=qd h;rcases h with⟨g,h⟩|⟨g,h⟩)
 all_goals (cases h<;>(first|(refine qz ?_;simp only[go_sem,seval,E6,zY,jh,E5,kx, *]<;>rfl)|(refine ju ?_;simp only[go_sem,seval,E6,zY,jh,E5,kx, *]<;>rfl)|(refine q8j ?_ rfl (by first|simp only[go_sem,seval,zY]|rfl) (by first|simp only[go_sem,seval,zY]|rfl);simp only[go_sem,seval,E6,zY,jh,E5,kx, *];exact⟨_,rfl⟩)))
theorem j1v (a0:Option (List GEv)){s0 d}(h:bz (pg a0) s0=En d):X pr (.loop E6) (zY a0 s0)=En (E5 a0 d):=zn (j8p a0) h
def f93 (a0:Option (List GEv)):Option ((Option (List GEv))×au×Int×Int):=
 cond (decide (1000<((a0.getD []).length:Int)))
  (En (Gc,⟨0,Gc,Gc,Gc⟩,0,5))
  (qa (bz (pg a0) (Gc,En [⟨0,Gc,Gc,Gc⟩],0,I,Gg)) fun d103=>match d103 with
   | .inl d105=>
    En (Gc,⟨0,Gc,Gc,Gc⟩,d105.1,d105.2.1)
   | .inr d106=>
    qa (qq (d106.2.2.1.getD []) ((d106.1.getD []).length:Int)) fun v107=>
    En (d106.1,v107,0,0))
theorem W93 {a0 r}(h:f93 a0=En r):qc pr (X pr) 93 [sl 5 vev a0]=En (.aC [sl 5 vev r.1,aR r.2.1,Iv r.2.2.1,Iv r.2.2.2],I):=by
 unfold f93 at h
 refine zi P8 ?_
 repeat' first|(replace h:=qb h;obtain⟨d,g,h⟩:=h; (with_reducible first|(replace g:=j1v a0 g;rcases d with d|d<;>dsimp only[zY,E5,zm,jB,List.map,zw,jd,jb,qu,bj,zh,vev,bm,q9,yd]at g h)|skip);try dsimp only[zm,jB,List.map,zw,jd,jb,qu,bj,zh,vev,bm,q9,yd,aE,aR,aU,aL,aP,aD]at g)|(replace h:=qd h;rcases h with⟨g,h⟩|⟨g,h⟩)
 all_goals (cases h<;>(simp only[go_sem,seval,P8,jh, *];exact⟨_,rfl⟩))
def f38 (a0:Option (List GEv)):Option (au×Int×Int):=
 qa (f93 a0) fun v1=>
 En (v1.2.1,v1.2.2.1,v1.2.2.2)
theorem W38 {a0 r}(h:f38 a0=En r):qc pr (X pr) 38 [sl 5 vev a0]=En (.aC [aR r.1,Iv r.2.1,Iv r.2.2],I):=by
 unfold f38 at h
 refine zi J6 ?_
 repeat' first|(replace h:=qb h;obtain⟨d,g,h⟩:=h;with_reducible first|replace g:=W93 g|skip)|(replace h:=qd h;rcases h with⟨g,h⟩|⟨g,h⟩)
 all_goals (cases h<;>(simp only[go_sem,seval,J6, *];exact⟨_,rfl⟩))
end Go.Z
namespace Go.Z
open Go Go.Abs Go.W
def Yx (a0:br)(e0:List (List UInt8×Int)):Option Bool:=
 En (decide ((mM e0 a0.k)<a0.n))
theorem j7x {a0 e0 r}(h:Yx a0 e0=En r):ql pr (X pr) 194 [aN a0,.ah (.map 0)] [.map (eL e0)]=En (.bool r,I,[.map (eL e0)]):=by
 unfold Yx at h
 have hr:decide ((mM e0 a0.k)<a0.n)=r:=En.inj h
 subst hr
 rw[qm (show pr.bM 194=En uJ from rfl) (by simp)]
 simp only[go_sem,seval,uJ,jnf]<;>rfl
def P9 (a0:Option (List br))(e0:List (List UInt8×Int))(s0:Int):Option (Int⊕(Int⊕Int)):=
 cond (decide (s0<((a0.getD []).length:Int)))
  (qa (qq (a0.getD []) s0) fun ef=>
  qa (Yx ef e0) fun dD=>
  cond dD
   (En (.inr (.inl s0)))
   (En (.inl (qe .i64 (s0+1)))))
  (En (.inr (.inr s0)))
def Qa (a0:Option (List br))(e0:List (List UInt8×Int))(s0:Int):bf:=⟨[(0,sl 2 bm a0,I),(1,.fn (.func 194) [] [.ah (.map 0)],I),(7,Lv a0,I),(8,Iv s0,I)],[.map (eL e0)]⟩
def Qb (a0:Option (List br))(e0:List (List UInt8×Int)):Int⊕Int→jg×bf
 | .inl d=>(.ret,⟨[(4,Iv d,I)],[.map (eL e0)]⟩)
 | .inr d=>(.exit 0,⟨[(0,sl 2 bm a0,I),(1,.fn (.func 194) [] [.ah (.map 0)],I),(7,Lv a0,I),(8,Iv d,I),(9,.bool I,I)],[.map (eL e0)]⟩)
theorem jo3 (a0:Option (List br))(e0:List (List UInt8×Int))(s0:Int)(r)(h:P9 a0 e0 s0=En r):jz pr pn (Qa a0 e0) (Qb a0 e0) s0 r:=by
 unfold P9 at h
 repeat' first|(replace h:=qb h;obtain⟨d,g,h⟩:=h;with_reducible first|replace g:=j7x g|skip)|(replace h:=qd h;rcases h with⟨g,h⟩|⟨g,h⟩)
 all_goals (cases h<;>((first|refine qz ?_|refine ju ?_);simp only[go_sem,seval,pn,Qa,jh,Qb, *]<;>rfl))
theorem jqq (a0:Option (List br))(e0:List (List UInt8×Int)){s0 d}(h:bz (P9 a0 e0) s0=En d):X pr (.loop pn) (Qa a0 e0 s0)=En (Qb a0 e0 d):=zn (jo3 a0 e0) h
def HA (a0:Option (List br))(e0:List (List UInt8×Int)):Option Int:=
 qa (bz (P9 a0 e0) 0) fun d19=>match d19 with
  | .inl d21=>
   En d21
  | .inr d22=>
   En (-1)
theorem j7t {a0 e0 r}(h:HA a0 e0=En r):ql pr (X pr) 250 [sl 2 bm a0,.fn (.func 194) [] [.ah (.map 0)]] [.map (eL e0)]=En (Iv r,I,[.map (eL e0)]):=by
 unfold HA at h
 rw[qm (show pr.bM 250=En iR from rfl) (by simp)]
 repeat' first|(replace h:=qb h;obtain⟨d,g,h⟩:=h;with_reducible first|(replace g:=jqq a0 e0 g;rcases d with d|d<;>dsimp only[Qa,Qb,zm]at g h)|skip)|(replace h:=qd h;rcases h with⟨g,h⟩|⟨g,h⟩)
 all_goals (cases h<;>(simp only[go_sem,seval,iR, *]<;>rfl))
def Hz (a0:Option (List br))(e0:List (List UInt8×Int)):Option Bool:=
 qa (HA a0 e0) fun v1=>
 En (decide (0≤v1))
theorem j21 {a0 e0 r}(h:Hz a0 e0=En r):ql pr (X pr) 193 [sl 2 bm a0,.fn (.func 194) [] [.ah (.map 0)]] [.map (eL e0)]=En (.bool r,I,[.map (eL e0)]):=by
 unfold Hz at h
 obtain⟨v1,h2,h⟩:=qb h
 have jD:ql pr (X pr) 250 [sl 2 bm a0,.fn (.func 194) [] [.ah (.map 0)]] [.map (eL e0)]=En (Iv v1,I,[.map (eL e0)]):=j7t h2
 have hr:decide (0≤v1)=r:=En.inj h
 subst hr
 rw[qm (show pr.bM 193=En lj from rfl) (by simp)]
 simp only[go_sem,seval,lj,jD]<;>rfl
def Mj (a0:ja):Option Bool:=
 En a0.held
theorem zij (hp:qh){a0 r}(h:Mj a0=En r):ql pr (X pr) 135 [aL a0] hp=En (.bool r,I,hp):=by
 unfold Mj at h
 have hr:a0.held=r:=En.inj h
 subst hr
 rw[qm (show pr.bM 135=En uK from rfl) (by simp)]
 simp only[go_sem,seval,uK]<;>rfl
def HF (a0:Option (List ja))(s0:(Option (List ja))×Int×Bool):Option (((Option (List ja))×Int×Bool)⊕(((Option (List ja))×Bool×Int))):=
 cond (decide (s0.2.1<((a0.getD []).length:Int)))
  (qa (qq (a0.getD []) s0.2.1) fun v20=>
  qa (Mj v20) fun v22=>
  cond v22
   (cond s0.2.2
    (qa (bH s0.1 [v20]) fun v26=>
    En (.inl (v26,qe .i64 (s0.2.1+1),Gg)))
    (cond s0.1.isNone
     (qa (bH s0.1 [v20]) fun fb=>
     En (.inl (fb,qe .i64 (s0.2.1+1),Gg)))
     (Gc)))
   (En (.inl (s0.1,qe .i64 (s0.2.1+1),s0.2.2))))
  (En (.inr (s0.1,s0.2.2,s0.2.1)))
def Qc (a0:Option (List ja))(s0:(Option (List ja))×Int×Bool):bf:=⟨[(1,.fn (.func 135) [] [],I),(5,sl 5 jb s0.1,s0.2.2),(8,sl 5 jb a0,I),(9,Lv a0,I),(10,Iv s0.2.1,I)],[]⟩
def Qd (a0:Option (List ja))(d:((Option (List ja))×Bool×Int)):jg×bf:=(.exit 0,⟨[(1,.fn (.func 135) [] [],I),(5,sl 5 jb d.1,d.2.1),(8,sl 5 jb a0,I),(9,Lv a0,I),(10,Iv d.2.2,I),(11,.bool I,I)],[]⟩)
theorem jvq (a0:Option (List ja))(s0:(Option (List ja))×Int×Bool)(r)(h:HF a0 s0=En r):jz pr Qe (Qc a0) (Qd a0) s0 r:=by
 unfold HF at h
 repeat' first|(replace h:=qb h;obtain⟨d,g,h⟩:=h;with_reducible first|replace g:=zij [] g|replace g:=Tx g|skip)|(replace h:=qd h;rcases h with⟨g,h⟩|⟨g,h⟩)
 all_goals (cases h<;>((first|refine qz ?_|refine ju ?_);simp only[go_sem,seval,Qe,Qc,jh,Qd, *]<;>rfl))
theorem jtf (a0:Option (List ja)){s0 d}(h:bz (HF a0) s0=En d):X pr (.loop Qe) (Qc a0 s0)=En (Qd a0 d):=zn (jvq a0) h
def HE (a0:Option (List ja)):Option ((Option (List ja))×Bool):=
 qa (bz (HF a0) (Gc,0,I)) fun d31=>
 En (d31.1,d31.2.1)
theorem zjm {a0 r}(h:HE a0=En r):qc pr (X pr) 134 [sl 5 jb a0,.fn (.func 135) [] []]=En (sl 5 jb r.1,r.2):=by
 unfold HE at h
 refine y5 uL ?_
 repeat' first|(replace h:=qb h;obtain⟨d,g,h⟩:=h;with_reducible first|(replace g:=jtf a0 g;dsimp only[Qc,Qd,zm]at g h)|skip)|(replace h:=qd h;rcases h with⟨g,h⟩|⟨g,h⟩)
 all_goals (cases h<;>(simp only[go_sem,seval,uL, *];exact⟨_,rfl⟩))
end Go.Z
namespace Go.Z
open Go Go.Abs Go.W
def l8:aw→aw
 | .seq a _=>a
 |x=>x
def iy:aw→aw
 | .seq _ b=>b
 |x=>x
def CC:aw→aw
 | .block _ b=>b
 |x=>x
def Qf:aw→aw
 | .rangeFunc _ _ a _=>a
 |x=>x
def J7:aw→aw
 | .rangeFunc _ _ _ b=>b
 |x=>x
theorem qur {n v h t}(hn:h.length=n)(hv:Abs.below n v=Gg)(hb:zr n h=Gg):zd n v (h++t)=h:=by
 have ht:(h++t).take n=h:=by rw[←hn,List.take_left'];rfl
 unfold zd
 rw[ht,hv,hb]
 cases hc:Nat.ble (h++t).length n with
 |true=>
  have:=Nat.le_of_ble_eq_true hc
  rw[List.length_append,hn]at this
  have:t=[]:=List.eq_nil_of_length_eq_zero (by omega)
  subst this;simp
 |false=>rfl
theorem tH {n v h}(hn:h.length=n):zd n v h=h:=by
 unfold zd
 rw[Nat.ble_eq_true_of_le (by omega)];rfl
section
variable {σ:Type}(r:au)(u:aY)(H:σ→qh)(step:σ→ja→Int→Option σ)
def oY (x:Int×σ):Option ((Int×σ)⊕(Int×σ)):=
 cond (decide (x.1<((u.uses.getD []).length:Int)))
  (qa (qq (u.uses.getD []) x.1) fun s=>qa (f64 r s.k) fun v=>qa (qq (r.ar.getD []) v) fun l=>qa (step x.2 l s.n) fun y=>En (.inl (qe .i64 (x.1+1),y)))
  (En (.inr x))
def E7 (x:Int×σ):bf:=⟨[(0,.fn (.yield 1) [] [],I),(2,.ah (aR r),I),(7,sl 2 bm u.uses,I),(8,Lv u.uses,I),(9,Iv x.1,I)],H x.2⟩
def Qg (x:Int×σ):jg×bf:=(.exit 0,⟨[(0,.fn (.yield 1) [] [],I),(2,.ah (aR r),I),(7,sl 2 bm u.uses,I),(8,Lv u.uses,I),(9,Iv x.1,I),(10,.bool I,I)],H x.2⟩)
theorem zic (hy:∀x l n y,step x l n=En y→kE (X pr) 1 [aL l,Iv n] (H x)=En (.bool Gg,H y))(hl:∀x,(H x).length=2)(x:Int×σ)(q)(h:oY r u step x=En q):jz pr J8 (E7 r u H) (Qg r u H) x q:=by
 unfold oY at h
 rcases qd h with⟨h1,h⟩|⟨h1,h⟩
 ·obtain⟨s,h2,h⟩:=qb h
  obtain⟨v,h3,h⟩:=qb h
  obtain⟨l,h4,h⟩:=qb h
  obtain⟨y,h5,h⟩:=qb h
  cases h
  have g:=hy _ _ _ _ h5
  have w:=Cj h3
  exact Be (bT:=E7 r u H (qe .i64 (x.1+1),y)) (by simp only[go_sem,seval,J8,E7,h1,z7 h2,w,z7 h4,g]<;>rfl) (D3 (by show(H y).length≤(H x.2).length;rw[hl,hl];exact Nat.le_refl _))
 ·cases h
  exact qz (by simp only[go_sem,seval,J8,E7,h1,Qg]<;>rfl)
theorem jvv {r:au}{u:aY}{H:σ→qh}{step:σ→ja→Int→Option σ}(hy:∀x l n y,step x l n=En y→kE (X pr) 1 [aL l,Iv n] (H x)=En (.bool Gg,H y))(hl:∀x,(H x).length=2){x0 d}(h:bz (oY r u step) (0,x0)=En d):ql pr (X pr) 192 [.fn (.yield 1) [] [],.ah (aU u),.ah (aR r)] (H x0)=En (.aC [],I,H d.2):=by
 have h1:X pr (.loop J8) (E7 r u H (0,x0))=En (Qg r u H d):=jnr (zic r u H step hy hl) (fun d=>by intro hh;cases hh) h
 rw[qm (show pr.bM 192=En uM from rfl) (by simp)]
 simp only[E7,Qg]at h1
 simp only[go_sem,seval,uM,h1]<;>rfl
end
def xF:aw:=CC (iy (l8 (iy (iy qE.body))))
def uN:aw:=Qf xF
def qF:aw:=J7 xF
theorem jq2:xF=.rangeFunc (.tmp 9) [10,11] uN qF:=rfl
def l9 (r:au)(u:aY):Env:=[(2,.ah (aR r),I),(3,.ah (aU u),I),(5,.ptr 0 0,I),(9,.fn (.func 192) [] [.ah (aU u),.ah (aR r)],I)]
def CD (o:Option (List ja)):qh:=[.cells [(sl 5 jb o,o.isSome)]]
def jP (r:au)(u:aY)(pd:Option jg)(o:Option (List ja)):qh:=[.cells [(sl 5 jb o,o.isSome)],.loop ⟨l9 r u,[10,11],uN,qF,pd⟩]
def Yy (r:au)(u:aY)(l:ja)(n:Int):Env:=(([10,11][1]),Iv n,I)::(([10,11][0]),aL l,I)::l9 r u
def Qh (r:au)(u:aY)(l:ja)(n:Int):Env:=[(2,.ah (aR r),I),(3,.ah (aU u),I),(5,.ptr 0 0,I),(6,.ah (aL l),I)]
theorem zfa {r u l n}:wu (fC (l9 r u)) [10,11] [aL l,Iv n]=En (Yy r u l n):=rfl
theorem jiq {r u l n H}:X pr uN ⟨Yy r u l n,H⟩=En (.normal,⟨Qh r u l n,H⟩):=by
 simp only[go_sem,seval,uN,Qf,xF,CC,l8,iy,qE,Yy,l9,List.getElem_cons_zero,List.getElem_cons_succ]<;>rfl
def yW (o:Option (List ja))(l:ja)(_:Int):Option (Option (List ja)):=bH o [l]
theorem jiu {r u l n pd o o'}(ho:yW o l n=En o'):∃e t,X pr qF ⟨Qh r u l n,jP r u pd o⟩=En (.normal,⟨e,jP r u pd o'++t⟩):=by
 unfold yW at ho
 have hs:o'.isSome=Gg:=by
  cases o' with
  |some _=>rfl
  |none=>cases o<;>simp[bH,El]at ho
 cases o with
 |none=>
  have ap:=fun(b:Nat) (h:qh) (bb:Bool)=>qwg (b:=b) (h:=h) (bb:=bb) ho rfl
  simp only[go_sem,seval,qF,J7,xF,CC,l8,iy,qE,Qh,jP,ap,Option.isSome_none,hs]
  exact⟨_,_,rfl⟩
 |some o=>
  have ap:=fun(b t:Nat) (h:qh) (bb:Bool)=>qwz (b:=b) (t:=t) (h:=h) (bb:=bb) ho
  simp only[go_sem,seval,qF,J7,xF,CC,l8,iy,qE,Qh,jP,ap,Option.isSome_some,hs]
  exact⟨_,_,rfl⟩
theorem jet {r u pd o}:zr 2 (jP r u pd o)=Gg:=by
 simp only[go_sem,seval,jP,zr,nY,pw,mV,l9]<;>rfl
theorem y75 {r u l n o o'}(ho:yW o l n=En o'):kE (X pr) 1 [aL l,Iv n] (jP r u Gc o)=En (.bool Gg,jP r u Gc o'):=by
 have g:∀o pd t,zg (jP r u pd o++t) 1=En (.loop ⟨l9 r u,[10,11],uN,qF,pd⟩):=fun _ _ _=>rfl
 have g0:∀o pd,zg (jP r u pd o) 1=En (.loop ⟨l9 r u,[10,11],uN,qF,pd⟩):=fun _ _=>rfl
 have st:∀o pd uO t,(jP r u pd o++t).set 1 (.loop ⟨l9 r u,[10,11],uN,qF,uO⟩)=jP r u uO o++t:=fun _ _ _ _=>rfl
 have Yz:∀o pd uO,(jP r u pd o).set 1 (.loop ⟨l9 r u,[10,11],uN,qF,uO⟩)=jP r u uO o:=fun _ _ _=>rfl
 have hl:∀o pd,(jP r u pd o).length=2:=fun _ _=>rfl
 have ha:∀o pd v t,Abs.below 2 v=Gg→zd 2 v (jP r u pd o++t)=jP r u pd o:=fun _ _ _ _ hv=>qur rfl hv jet
 obtain⟨e,t,hx⟩:=jiu (r:=r) (u:=u) (n:=n) (pd:=En .normal) ho
 unfold kE
 simp only[g0,zfa,jiq,Gh,cond_true,Yz,hl,hx,g,st]
 rw[ha _ _ _ _ rfl]
theorem jqn {r:au}{u:aY}{o:Option (List ja)}{d}(h:bz (oY r u yW) (0,o)=En d):X pr xF ⟨l9 r u,CD o⟩=En (.normal,⟨l9 r u,CD d.2⟩):=by
 have h1:=jvv (H:=jP r u Gc) (fun x l n y hs=>y75 hs) (fun _=>rfl) h
 have hb:∀o,zr 1 (CD o)=Gg:=by
  intro o
  simp only[go_sem,seval,CD,zr,nY,pw]<;>rfl
 rw[jq2,SE]
 unfold mZ
 have hn:(z6 uN&&z6 qF)=Gg:=rfl
 have he:qi (l9 r u) (.tmp 9)=En (.fn (.func 192) [] [.ah (aU u),.ah (aR r)]):=rfl
 have hl:∀o,(CD o).length=1:=fun _=>rfl
 have rJ:∀o,CD o++[.loop ⟨l9 r u,[10,11],uN,qF,Gc⟩]=jP r u Gc o:=fun _=>rfl
 have hg:∀o,zg (jP r u Gc o) 1=En (.loop ⟨l9 r u,[10,11],uN,qF,Gc⟩):=fun _=>rfl
 have ht:∀o,(jP r u Gc o).take 1=CD o:=fun _=>rfl
 simp only[hn,cond_true,he,hl,List.nil_append,List.cons_append,rJ,h1,hg,ht,hb]
def zZ:aw:=CC (iy (l8 (iy (iy iW.body))))
def uP:aw:=Qf zZ
def uQ:aw:=J7 zZ
theorem jh7:zZ=.rangeFunc (.tmp 11) [12,13] uP uQ:=rfl
def mb (r:au)(u:aY):Env:=[(2,.ah (aR r),I),(3,.ah (aU u),I),(5,.ah (.map 0),I),(11,.fn (.func 192) [] [.ah (aU u),.ah (aR r)],I)]
def CF (o:List (List UInt8×Int)):qh:=[.map (eL o)]
def kD (r:au)(u:aY)(pd:Option jg)(o:List (List UInt8×Int)):qh:=[.map (eL o),.loop ⟨mb r u,[12,13],uP,uQ,pd⟩]
def YA (r:au)(u:aY)(l:ja)(n:Int):Env:=(([12,13][1]),Iv n,I)::(([12,13][0]),aL l,I)::mb r u
def YB (r:au)(u:aY)(l:ja)(n:Int):Env:=[(2,.ah (aR r),I),(3,.ah (aU u),I),(5,.ah (.map 0),I),(6,.ah (aL l),I),(7,Iv n,I)]
theorem j0a {r u l n}:wu (fC (mb r u)) [12,13] [aL l,Iv n]=En (YA r u l n):=rfl
theorem jeg {r u l n H}:X pr uP ⟨YA r u l n,H⟩=En (.normal,⟨YB r u l n,H⟩):=by
 simp only[go_sem,seval,uP,Qf,zZ,CC,l8,iy,iW,YA,mb,List.getElem_cons_zero,List.getElem_cons_succ]<;>rfl
def wQ (o:List (List UInt8×Int))(l:ja)(n:Int):Option (List (List UInt8×Int)):=Ma o l.kind (qe .i64 (mM o l.kind+n))
theorem je9 {r u l n pd o o'}(ho:wQ o l n=En o'):∃e t,X pr uQ ⟨YB r u l n,kD r u pd o⟩=En (.normal,⟨e,kD r u pd o'++t⟩):=by
 unfold wQ at ho
 simp only[go_sem,seval,uQ,J7,zZ,CC,l8,iy,iW,YB,kD,jnf,jw2 ho]
 exact⟨_,_,rfl⟩
theorem jbn {r u pd o}:zr 2 (kD r u pd o)=Gg:=by
 simp only[go_sem,seval,kD,zr,nY,pw,mV,mb]<;>rfl
theorem zi5 {r u l n o o'}(ho:wQ o l n=En o'):kE (X pr) 1 [aL l,Iv n] (kD r u Gc o)=En (.bool Gg,kD r u Gc o'):=by
 have g:∀o pd t,zg (kD r u pd o++t) 1=En (.loop ⟨mb r u,[12,13],uP,uQ,pd⟩):=fun _ _ _=>rfl
 have g0:∀o pd,zg (kD r u pd o) 1=En (.loop ⟨mb r u,[12,13],uP,uQ,pd⟩):=fun _ _=>rfl
 have st:∀o pd uO t,(kD r u pd o++t).set 1 (.loop ⟨mb r u,[12,13],uP,uQ,uO⟩)=kD r u uO o++t:=fun _ _ _ _=>rfl
 have Yz:∀o pd uO,(kD r u pd o).set 1 (.loop ⟨mb r u,[12,13],uP,uQ,uO⟩)=kD r u uO o:=fun _ _ _=>rfl
 have hl:∀o pd,(kD r u pd o).length=2:=fun _ _=>rfl
 have ha:∀o pd v t,Abs.below 2 v=Gg→zd 2 v (kD r u pd o++t)=kD r u pd o:=fun _ _ _ _ hv=>qur rfl hv jbn
 obtain⟨e,t,hx⟩:=je9 (r:=r) (u:=u) (n:=n) (pd:=En .normal) ho
 unfold kE
 simp only[g0,j0a,jeg,Gh,cond_true,Yz,hl,hx,g,st]
 rw[ha _ _ _ _ rfl]
theorem jln {r:au}{u:aY}{o:List (List UInt8×Int)}{d}(h:bz (oY r u wQ) (0,o)=En d):X pr zZ ⟨mb r u,CF o⟩=En (.normal,⟨mb r u,CF d.2⟩):=by
 have h1:=jvv (H:=kD r u Gc) (fun x l n y hs=>zi5 hs) (fun _=>rfl) h
 have hb:∀o,zr 1 (CF o)=Gg:=by
  intro o
  simp only[go_sem,seval,CF,zr,nY,pw]<;>rfl
 rw[jh7,SE]
 unfold mZ
 have hn:(z6 uP&&z6 uQ)=Gg:=rfl
 have he:qi (mb r u) (.tmp 11)=En (.fn (.func 192) [] [.ah (aU u),.ah (aR r)]):=rfl
 have hl:∀o,(CF o).length=1:=fun _=>rfl
 have rJ:∀o,CF o++[.loop ⟨mb r u,[12,13],uP,uQ,Gc⟩]=kD r u Gc o:=fun _=>rfl
 have hg:∀o,zg (kD r u Gc o) 1=En (.loop ⟨mb r u,[12,13],uP,uQ,Gc⟩):=fun _=>rfl
 have ht:∀o,(kD r u Gc o).take 1=CF o:=fun _=>rfl
 simp only[hn,cond_true,he,hl,List.nil_append,List.cons_append,rJ,h1,hg,ht,hb]
end Go.Z
namespace Go.Z
open Go Go.Abs Go.W
theorem jx2 {hp r u}:ql pr (X pr) 131 [aR r,aU u] hp=En (.fn (.func 192) [] [.ah (aU u),.ah (aR r)],I,hp):=by
 rw[qm (show pr.bM 131=En uR from rfl) (by simp)]
 simp only[go_sem,seval,uR]<;>rfl
def HC (r:au)(u:aY):Option Bool:=
 qa (bz (oY r u wQ) (0,[])) fun d=>qa (pQ r u) fun doc=>qa (Hz doc.aM d.2) fun b=>En (!b)
def jes:aw:=l8 iW.body
def jdv:aw:=l8 (iy iW.body)
def jfz:aw:=l8 (l8 (iy (iy iW.body)))
def jfc:aw:=iy (iy (iy iW.body))
theorem zec {r u q}(h:HC r u=En q):qc pr (X pr) 133 [aR r,aU u]=En (.bool q,I):=by
 unfold HC at h
 obtain⟨d,h1,h⟩:=qb h
 obtain⟨doc,h2,h⟩:=qb h
 obtain⟨b,h3,h⟩:=qb h
 cases h
 have hx:X pr zZ ⟨mb r u,[.map []]⟩=En (.normal,⟨mb r u,[.map (eL d.2)]⟩):=jln h1
 have w1:=jx2 (hp:=[.map []]) (r:=r) (u:=u)
 have ha:zd 1 (.fn (.func 192) [] [.ah (aU u),.ah (aR r)]) ([.map []]:qh)=[.map []]:=tH rfl
 have w2:qc pr (X pr) 126 [aR r,aU u]=En (aD doc,I):=N6 h2
 have w3:=j21 h3
 have hb:zd 1 (.bool b) ([.map (eL d.2)]:qh)=[.map (eL d.2)]:=tH rfl
 have this:∃hh,ql pr (X pr) 133 [aR r,aU u] []=En (.bool (!b),I,hh):=by
  rw[qm (show pr.bM 133=En ⟨27,.seq jes (.seq jdv (.seq (.seq jfz (.block 0 zZ)) jfc)),[.tmp 4]⟩from rfl) (by simp)]
  simp only[mb]at hx
  simp only[go_sem,seval,jes,jdv,jfz,jfc,l8,iy,iW,w1,ha,w2,w3,hb,hx]
  exact⟨_,rfl⟩
 obtain⟨hh,this⟩:=this
 exact zx rfl this (by first|rfl|simp only[go_sem,seval]) (by first|rfl|simp only[go_sem,seval])
def f79 (r:au)(u:aY):Option Int:=
 qa (bz (oY r u yW) (0,Gc)) fun d=>qa (f48 u.aj 21) fun e1=>qa (Ee r u) fun lt=>qa (f48 (!decide (u.version=lt)) 32) fun e2=>qa (HC r u) fun c=>qa (f48 (!c) 20) fun e3=>
 qa (f78 r u) fun m=>qa (f48 (decide (0<((m.1.getD []).length:Int))) 31) fun e4=>qa (HE d.2) fun hd=>qa (f48 (decide (0<((hd.1.getD []).length:Int))) 34) fun e5=>f46 (En [e1,e2,e3,e4,e5])
def jmx:aw:=l8 qE.body
def jna:aw:=l8 (iy qE.body)
def jnd:aw:=l8 (l8 (iy (iy qE.body)))
def jmq:aw:=iy (iy (iy qE.body))
theorem W79 {r u q}(h:f79 r u=En q):qc pr (X pr) 79 [aR r,aU u]=En (Iv q,I):=by
 unfold f79 at h
 obtain⟨d,h1,h⟩:=qb h
 obtain⟨e1,g1,h⟩:=qb h
 obtain⟨lt,h2,h⟩:=qb h
 obtain⟨e2,g2,h⟩:=qb h
 obtain⟨c,h3,h⟩:=qb h
 obtain⟨e3,g3,h⟩:=qb h
 obtain⟨m,h4,h⟩:=qb h
 obtain⟨e4,g4,h⟩:=qb h
 obtain⟨hd,h5,h⟩:=qb h
 obtain⟨e5,g5,h⟩:=qb h
 have hx:X pr xF ⟨l9 r u,[.cells [(Nl,I)]]⟩=En (.normal,⟨l9 r u,[.cells [(sl 5 jb d.2,d.2.isSome)]]⟩):=jqn h1
 have w1:=jx2 (hp:=[.cells [(Nl,I)]]) (r:=r) (u:=u)
 have ha:zd 1 (.fn (.func 192) [] [.ah (aU u),.ah (aR r)]) ([.cells [(Nl,I)]]:qh)=[.cells [(Nl,I)]]:=tH rfl
 have k1:=fP g1
 have w2:qc pr (X pr) 132 [aR r,aU u]=En (Iv lt,I):=jst h2
 have k2:=fP g2
 have w3:=zec h3
 have k3:=fP g3
 have w4:qc pr (X pr) 78 [aR r,aU u]=En (sl 1 jd m.1,m.2):=W78 h4
 have k4:=fP g4
 have w5:=zjm h5
 have k5:=fP g5
 have k6:qc pr (X pr) 46 [.list I 1 [Iv e1,Iv e2,Iv e3,Iv e4,Iv e5]]=En (Iv q,I):=l7 h
 have this:∃hh,ql pr (X pr) 79 [aR r,aU u] []=En (Iv q,I,hh):=by
  rw[qm (show pr.bM 79=En ⟨44,.seq jmx (.seq jna (.seq (.seq jnd (.block 0 xF)) jmq)),[.tmp 4]⟩from rfl) (by simp)]
  simp only[l9]at hx
  simp only[go_sem,seval,jmx,jna,jnd,jmq,l8,iy,qE,w1,ha,k1,w2,k2,w3,k3,w4,k4,w5,k5,k6,hx]
  exact⟨_,rfl⟩
 obtain⟨hh,this⟩:=this
 exact zx rfl this (by first|rfl|simp only[go_sem,seval]) (by first|rfl|simp only[go_sem,seval])
end Go.Z
namespace Go.Z
open Go Go.Abs Go.W
def Ia (a1:GEv)(aV:Int)(aQ:Option (List ja))(aO:Option (List aX))(aA:Option (List aY)):Option (Int×(Option (List aY))):=
 qa (qq (a1.names.getD []) 0) fun v1=>
 qa (f76 (⟨aV,aQ,aO,aA⟩) v1) fun v3=>
 qa (qq (aA.getD []) v3) fun v5=>
 qa (f79 (⟨aV,aQ,aO,aA⟩) v5) fun v7=>
 cond (decide (v7=0))
  (qa (TU aA v3) fun v10=>
  En (0,v10))
  (En (v7,aA))
theorem zin {a1 aV aQ aO aA x1 x2 x3 r}(h:Ia a1 aV aQ aO aA=En r):ql pr (X pr) 180 [.ptr 0 0,aE a1] [kR aV aQ aO aA,x1,x2,x3]=En (Iv r.1,I,[kR aV aQ aO r.2,x1,x2,x3]):=by
 unfold Ia at h
 rw[qm (show pr.bM 180=En uS from rfl) (by simp)]
 repeat' first|(replace h:=qb h;obtain⟨d,g,h⟩:=h;with_reducible first|replace g:=tz g|replace g:=W79 g|replace g:=jkp g|skip)|(replace h:=qd h;rcases h with⟨g,h⟩|⟨g,h⟩)
 all_goals (cases h<;>(simp only[go_sem,seval,uS,jh, *]<;>rfl))
end Go.Z
namespace Go.Z
open Go Go.Abs Go.W
def BA (a0:au)(a1:GEv):Option (Option (Nat)⊕(Nat⊕Nat)):=
 cond (decide (0<(za a1.kind).length))
  (cond (decide (((qn (za a1.kind) 0).1:Int)=45))
   (En (.inl (En (0+(qn (za a1.kind) 0).2))))
   (qa (qq (a1.names.getD []) (0:Int)) fun JA=>
   qa (Et a0 ((qn (za a1.kind) 0).1:Int) JA) fun zU=>
   cond zU
    (En (.inl (En (0+(qn (za a1.kind) 0).2))))
    (En (.inr (.inl (0+(qn (za a1.kind) 0).2))))))
  (En (.inr (.inr 0)))
def wV (a0:au)(a1:GEv)(s0:Nat):Option (Option (Nat)⊕(Nat⊕Nat)):=
 cond (decide (s0<(za a1.kind).length))
  (cond (decide (((qn (za a1.kind) s0).1:Int)=45))
   (En (.inl (En (s0+(qn (za a1.kind) s0).2))))
   (qa (qq (a1.names.getD []) (s0:Int)) fun zV=>
   qa (Et a0 ((qn (za a1.kind) s0).1:Int) zV) fun Cf=>
   cond Cf
    (En (.inl (En (s0+(qn (za a1.kind) s0).2))))
    (En (.inr (.inl (s0+(qn (za a1.kind) s0).2))))))
  (En (.inr (.inr s0)))
def Eu (a0:au)(a1:GEv):Option (Nat)→Option (Option (Nat)⊕(Nat⊕Nat))
 |none=>BA a0 a1
 |some x=>wV a0 a1 x
def YC (a0:au)(a1:GEv)(s0:Nat):bf:=⟨[(2,.ptr 0 0,I),(3,.ah (aE a1),I),(4,.ptr 1 0,I),(6,.ah (.agg [.str (za a1.kind),Iv (nI a1.kind),lW a1.kind]),I),(24,.ptr 3 0,I),(41,.bool I,I)],[.cells [(Iv a0.day,I),(sl 5 jb a0.ar,I),(sl 4 qu a0.ae,I),(sl 8 bj a0.units,I)],kZ,.map qy,.iter (za a1.kind) s0]⟩
def E8 (a0:au)(a1:GEv):Option (Nat)→bf
 |none=>⟨[(2,.ptr 0 0,I),(3,.ah (aE a1),I),(4,.ptr 1 0,I),(6,.ah (.agg [.str (za a1.kind),Iv (nI a1.kind),lW a1.kind]),I),(24,.ptr 3 0,I)],[.cells [(Iv a0.day,I),(sl 5 jb a0.ar,I),(sl 4 qu a0.ae,I),(sl 8 bj a0.units,I)],kZ,.map qy,.iter (za a1.kind) 0]⟩
 |some x=>YC a0 a1 x
def E9 (a0:au)(a1:GEv):Nat⊕Nat→jg×bf
 | .inl d=>(.ret,⟨[(4,.ptr 1 0,I),(5,Iv 10,I)],[.cells [(Iv a0.day,I),(sl 5 jb a0.ar,I),(sl 4 qu a0.ae,I),(sl 8 bj a0.units,I)],kZ,.map qy,.iter (za a1.kind) d]⟩)
 | .inr d=>(.exit 0,⟨[(2,.ptr 0 0,I),(3,.ah (aE a1),I),(4,.ptr 1 0,I),(6,.ah (.agg [.str (za a1.kind),Iv (nI a1.kind),lW a1.kind]),I),(24,.ptr 3 0,I),(25,.aC [.bool I],I),(26,.bool I,I)],[.cells [(Iv a0.day,I),(sl 5 jb a0.ar,I),(sl 4 qu a0.ae,I),(sl 8 bj a0.units,I)],kZ,.map qy,.iter (za a1.kind) d]⟩)
theorem jqz (a0:au)(a1:GEv)(r)(h:BA a0 a1=En r):jz pr xG (E8 a0 a1) (E9 a0 a1) Gc r:=by
 unfold BA at h
 repeat' first|(replace h:=qb h;obtain⟨d,g,h⟩:=h;with_reducible first|replace g:=jw8 g|skip)|(replace h:=qd h;rcases h with⟨g,h⟩|⟨g,h⟩)
 all_goals (cases h<;>((first|refine qz ?_|refine ju ?_);simp only[go_sem,seval,xG,E8,YC,L5,jh,E9, *]<;>rfl))
theorem jpb (a0:au)(a1:GEv)(s0:Nat)(r)(h:wV a0 a1 s0=En r):jz pr xG (E8 a0 a1) (E9 a0 a1) (En s0) r:=by
 unfold wV at h
 repeat' first|(replace h:=qb h;obtain⟨d,g,h⟩:=h;with_reducible first|replace g:=jw8 g|skip)|(replace h:=qd h;rcases h with⟨g,h⟩|⟨g,h⟩)
 all_goals (cases h<;>((first|refine qz ?_|refine ju ?_);simp only[go_sem,seval,xG,E8,YC,L5,jh,E9, *]<;>rfl))
theorem ju2 (a0:au)(a1:GEv):∀(x:Option (Nat)) (r) (h:Eu a0 a1 x=En r),jz pr xG (E8 a0 a1) (E9 a0 a1) x r
 |none,r,h=>jqz a0 a1 r h
 |some x,r,h=>jpb a0 a1 x r h
theorem jdr (a0:au)(a1:GEv){s0 d}(h:bz (Eu a0 a1) s0=En d):X pr (.loop xG) (E8 a0 a1 s0)=En (E9 a0 a1 d):=zn (ju2 a0 a1) h
def fq (k:Nat)(a0:au)(a1:GEv):Option (Int×au):=
 bif Gd k 168 then qa (HZ a1 a0.day a0.ar a0.ae a0.units) fun v=>En (v.1,{ a0 with ar:=v.2.1 })else
 bif Gd k 169 then qa (f169 a1 a0.day a0.ar a0.ae a0.units) fun v=>En (v.1,{ a0 with ae:=v.2.1 })else
 bif Gd k 170 then qa (f170 a1 a0.day a0.ar a0.ae a0.units) fun v=>En (v.1,{ a0 with ae:=v.2 })else
 bif Gd k 171 then qa (f171 a1 a0.day a0.ar a0.ae a0.units) fun v=>En (v.1,{ a0 with ae:=v.2 })else
 bif Gd k 172 then qa (H6 a1 a0.day a0.ar a0.ae a0.units) fun v=>En (v.1,{ a0 with ae:=v.2 })else
 bif Gd k 173 then qa (H0 a1 a0.day a0.ar a0.ae a0.units) fun v=>En (v.1,{ a0 with units:=v.2.1 })else
 bif Gd k 175 then qa (Ic a1 a0.day a0.ar a0.ae a0.units) fun v=>En (v.1,{ a0 with units:=v.2 })else
 bif Gd k 176 then qa (H9 a1 a0.day a0.ar a0.ae a0.units) fun v=>En (v.1,{ a0 with units:=v.2 })else
 bif Gd k 177 then qa (Ii a1 a0.day a0.ar a0.ae a0.units) fun v=>En (v.1,{ a0 with units:=v.2 })else
 bif Gd k 178 then qa (H7 a1 a0.day a0.ar a0.ae a0.units) fun v=>En (v.1,{ a0 with ar:=v.2 })else
 bif Gd k 179 then qa (H8 a1 a0.day a0.ar a0.ae a0.units) fun v=>En (v.1,{ a0 with ar:=v.2 })else
 bif Gd k 180 then qa (Ia a1 a0.day a0.ar a0.ae a0.units) fun v=>En (v.1,{ a0 with units:=v.2 })else
 bif Gd k 181 then qa (Ib a1 a0.day a0.ar a0.ae a0.units) fun v=>En (v.1,{ a0 with units:=v.2 })else
 bif Gd k 174 then qa (Ig a1 a0.day a0.ar a0.ae a0.units) fun v=>En (v.1,{ a0 with ar:=v.2.1,units:=v.2.2 })else Gc
theorem jg6 {k a0 a1 x1 x2 x3 v}(h:fq k a0 a1=En v):
  (∃w1 w2 w3:Bool,ql pr (X pr) k [.ptr 0 0,aE a1] [.cells [(Iv a0.day,I),(sl 5 jb a0.ar,I),(sl 4 qu a0.ae,I),(sl 8 bj a0.units,I)],x1,x2,x3]=En (Iv v.1,I,[.cells [(Iv v.2.day,I),(sl 5 jb v.2.ar,w1),(sl 4 qu v.2.ae,w2),(sl 8 bj v.2.units,w3)],x1,x2,x3])∧v.2.day=a0.day) ∨
  (v.1=0∧v.2.day=a0.day∧∃(n:Nat) (b:bg) (cs:List (AVal×Bool)),ql pr (X pr) k [.ptr 0 0,aE a1] [.cells [(Iv a0.day,I),(sl 5 jb a0.ar,I),(sl 4 qu a0.ae,I),(sl 8 bj a0.units,I)],x1,x2,x3]=En (Iv 0,I,[.cells [(Iv v.2.day,I),(sl 5 jb v.2.ar,I),(sl 4 qu v.2.ae,I),(.ms 5 0 n,I)],x1,x2,x3,b,.cells cs])∧cs.map (·.1)=zb bj (v.2.units.getD [])∧n=(v.2.units.getD []).length∧0<n∧v.2.units.isSome=Gg):=by
 unfold fq at h
 rw[Ga]at h
 split at h
 ·rename_i hk
  rw[E3 hk]
  obtain⟨y,hy,h⟩:=qb h
  cases h
  exact .inl ⟨y.2.2,I,I,zfi hy,rfl⟩
 rw[Ga]at h
 split at h
 ·rename_i hk
  rw[E3 hk]
  obtain⟨y,hy,h⟩:=qb h
  cases h
  exact .inl ⟨I,y.2.2,I,zej hy,rfl⟩
 rw[Ga]at h
 split at h
 ·rename_i hk
  rw[E3 hk]
  obtain⟨y,hy,h⟩:=qb h
  cases h
  exact .inl ⟨I,I,I,zcc hy,rfl⟩
 rw[Ga]at h
 split at h
 ·rename_i hk
  rw[E3 hk]
  obtain⟨y,hy,h⟩:=qb h
  cases h
  exact .inl ⟨I,I,I,zbo hy,rfl⟩
 rw[Ga]at h
 split at h
 ·rename_i hk
  rw[E3 hk]
  obtain⟨y,hy,h⟩:=qb h
  cases h
  exact .inl ⟨I,I,I,zb2 hy,rfl⟩
 rw[Ga]at h
 split at h
 ·rename_i hk
  rw[E3 hk]
  obtain⟨y,hy,h⟩:=qb h
  cases h
  exact .inl ⟨I,I,y.2.2,zko hy,rfl⟩
 rw[Ga]at h
 split at h
 ·rename_i hk
  rw[E3 hk]
  obtain⟨y,hy,h⟩:=qb h
  cases h
  exact .inl ⟨I,I,I,zeu hy,rfl⟩
 rw[Ga]at h
 split at h
 ·rename_i hk
  rw[E3 hk]
  obtain⟨y,hy,h⟩:=qb h
  cases h
  exact .inl ⟨I,I,I,zbt hy,rfl⟩
 rw[Ga]at h
 split at h
 ·rename_i hk
  rw[E3 hk]
  obtain⟨y,hy,h⟩:=qb h
  cases h
  exact .inl ⟨I,I,I,zdv hy,rfl⟩
 rw[Ga]at h
 split at h
 ·rename_i hk
  rw[E3 hk]
  obtain⟨y,hy,h⟩:=qb h
  cases h
  exact .inl ⟨I,I,I,zhy hy,rfl⟩
 rw[Ga]at h
 split at h
 ·rename_i hk
  rw[E3 hk]
  obtain⟨y,hy,h⟩:=qb h
  cases h
  exact .inl ⟨I,I,I,zgm hy,rfl⟩
 rw[Ga]at h
 split at h
 ·rename_i hk
  rw[E3 hk]
  obtain⟨y,hy,h⟩:=qb h
  cases h
  exact .inl ⟨I,I,I,zin hy,rfl⟩
 rw[Ga]at h
 split at h
 ·rename_i hk
  rw[E3 hk]
  obtain⟨y,hy,h⟩:=qb h
  cases h
  exact .inl ⟨I,I,I,zge hy,rfl⟩
 rw[Ga]at h
 split at h
 ·rename_i hk
  rw[E3 hk]
  obtain⟨y,hy,h⟩:=qb h
  cases h
  rcases zjd (x1:=x1) (x2:=x2) (x3:=x3) hy with⟨h1,h2,h3⟩|⟨h1,n,b,cs,h2,h3,h4,h5⟩
  ·refine .inl ⟨I,I,I,?_,rfl⟩
   rcases y with⟨y1,y2⟩
   cases h2
   exact h3
  ·refine .inr ⟨h1,rfl,n,b,cs,h2,h3,h4,h5,?_⟩
   show y.2.2.isSome=Gg
   cases hu:y.2.2 with
   |some _=>rfl
   |none=>rw[hu]at h4;simp at h4;omega
 ·cases h
def Ij (x:List UInt8):Nat:=match oW x with
 |some f=>f.2.2.2
 |none=>0
theorem jiz (x:List UInt8):lW x=fnv (Ij x):=by
 unfold lW Ij
 cases oW x<;>rfl
theorem jmd {k a0 a1 v}(h:fq k a0 a1=En v):fnv k=.fn (.func k) [] []:=by
 cases hk:Gd k 0 with
 |false=>simp only[fnv,hk,cond_false]
 |true=>rw[E3 hk]at h;cases h
def jO (a0:au)(a1:GEv):Option (au×Int):=
 qa (qq (a1.values.getD []) 0) fun v1=>
 cond (decide (v1<a0.day))
  (En (⟨0,Gc,Gc,Gc⟩,20))
  (qa (bz (Eu a0 a1) Gc) fun d48=>match d48 with
   | .inl d50=>
    En (⟨0,Gc,Gc,Gc⟩,10)
   | .inr d51=>
    qa (fq (Ij a1.kind) a0 a1) fun v=>
    cond (decide (v.1=0))
     (En ({ v.2 with day:=v1 },0))
     (En (⟨0,Gc,Gc,Gc⟩,v.1)))
theorem ju6 {a0 a1 r}(h:jO a0 a1=En r):qc pr (X pr) 113 [aR a0,aE a1]=En (.aC [aR r.1,Iv r.2],I):=by
 unfold jO at h
 obtain⟨v1,h2,h⟩:=qb h
 rcases qd h with⟨h3,h⟩|⟨h3,h⟩
 ·have hr:(⟨0,Gc,Gc,Gc⟩,20)=r:=En.inj h
  subst hr
  have this:∃hh,ql pr (X pr) 113 [aR a0,aE a1] []=En (.aC [aZ,Iv 20],I,hh):=by
   rw[qm (show pr.bM 113=En gQ from rfl) (by simp)]
   simp only[go_sem,seval,gQ,z7 h2,h3]
   exact⟨_,rfl⟩
  obtain⟨hh,this⟩:=this
  exact zx rfl this (by first|rfl|simp only[go_sem,seval]) (by first|rfl|simp only[go_sem,seval])
 ·obtain⟨d48,Qi,h⟩:=qb h
  rcases d48 with d50|d51
  ·have pv:X pr (.loop xG) ⟨[(2,.ptr 0 0,I),(3,.ah (aE a1),I),(4,.ptr 1 0,I),(6,.ah (.agg [.str (za a1.kind),Iv (nI a1.kind),lW a1.kind]),I),(24,.ptr 3 0,I)],[kR a0.day a0.ar a0.ae a0.units,kZ,.map qy,.iter (za a1.kind) 0]⟩=En (.ret,⟨[(4,.ptr 1 0,I),(5,Iv 10,I)],[kR a0.day a0.ar a0.ae a0.units,kZ,.map qy,.iter (za a1.kind) d50]⟩):=jdr a0 a1 Qi
   have hr:(⟨0,Gc,Gc,Gc⟩,10)=r:=En.inj h
   subst hr
   have this:∃hh,ql pr (X pr) 113 [aR a0,aE a1] []=En (.aC [aZ,Iv 10],I,hh):=by
    rw[qm (show pr.bM 113=En gQ from rfl) (by simp)]
    simp only[go_sem,seval,gQ,z7 h2,h3,L9,pv]
    exact⟨_,rfl⟩
   obtain⟨hh,this⟩:=this
   exact zx rfl this (by first|rfl|simp only[go_sem,seval]) (by first|rfl|simp only[go_sem,seval])
  ·have pv:X pr (.loop xG) ⟨[(2,.ptr 0 0,I),(3,.ah (aE a1),I),(4,.ptr 1 0,I),(6,.ah (.agg [.str (za a1.kind),Iv (nI a1.kind),lW a1.kind]),I),(24,.ptr 3 0,I)],[kR a0.day a0.ar a0.ae a0.units,kZ,.map qy,.iter (za a1.kind) 0]⟩=En (.exit 0,⟨[(2,.ptr 0 0,I),(3,.ah (aE a1),I),(4,.ptr 1 0,I),(6,.ah (.agg [.str (za a1.kind),Iv (nI a1.kind),lW a1.kind]),I),(24,.ptr 3 0,I),(25,.aC [.bool I],I),(26,.bool I,I)],[kR a0.day a0.ar a0.ae a0.units,kZ,.map qy,.iter (za a1.kind) d51]⟩):=jdr a0 a1 Qi
   obtain⟨v,hv,h⟩:=qb h
   have hfn:lW a1.kind=.fn (.func (Ij a1.kind)) [] []:=by rw[jiz];exact jmd hv
   simp only[hfn]at pv
   have af:∀(n:Int) (b:bg),zd 4 (Iv n) [b,kZ,.map qy,.iter (za a1.kind) d51]=[b,kZ,.map qy,.iter (za a1.kind) d51]:=fun _ _=>tH rfl
   rcases jg6 (x1:=kZ) (x2:=.map qy) (x3:=.iter (za a1.kind) d51) hv with⟨w1,w2,w3,g,hd⟩|⟨h0,hd,n,b,cs,g,g2,hn,gK,hs⟩
   ·rcases qd h with⟨h5,h⟩|⟨h5,h⟩
    ·cases h
     have this:∃hh,ql pr (X pr) 113 [aR a0,aE a1] []=En (.aC [aG v1 v.2.ar v.2.ae v.2.units,Iv 0],I,hh):=by
      rw[qm (show pr.bM 113=En gQ from rfl) (by simp)]
      simp only[go_sem,seval,gQ,z7 h2,h3,L9,pv,hfn,g,af,h5]
      exact⟨_,rfl⟩
     obtain⟨hh,this⟩:=this
     exact zx rfl this (by first|rfl|simp only[go_sem,seval]) (by first|rfl|simp only[go_sem,seval])
    ·cases h
     have this:∃hh,ql pr (X pr) 113 [aR a0,aE a1] []=En (.aC [aZ,Iv v.1],I,hh):=by
      rw[qm (show pr.bM 113=En gQ from rfl) (by simp)]
      simp only[go_sem,seval,gQ,z7 h2,h3,L9,pv,hfn,g,af,h5]
      exact⟨_,rfl⟩
     obtain⟨hh,this⟩:=this
     exact zx rfl this (by first|rfl|simp only[go_sem,seval]) (by first|rfl|simp only[go_sem,seval])
   ·have h5:decide (v.1=0)=Gg:=decide_eq_true h0
    rw[h5]at h
    cases h
    have ab:∀(n:Int) (c:bg),zd 4 (Iv n) [c,kZ,.map qy,.iter (za a1.kind) d51,b,.cells cs]=(bif nY 4 c&&zr 4 [kZ,.map qy,.iter (za a1.kind) d51]then [c,kZ,.map qy,.iter (za a1.kind) d51]else [c,kZ,.map qy,.iter (za a1.kind) d51,b,.cells cs]):=fun _ _=>rfl
    have this:ql pr (X pr) 113 [aR a0,aE a1] []=En (.aC [.agg [Iv v1,sl 5 jb v.2.ar,sl 4 qu v.2.ae,.ms 5 0 n],Iv 0],I,[.cells [(Iv v1,I),(sl 5 jb v.2.ar,I),(sl 4 qu v.2.ae,I),(.ms 5 0 n,I)],.cells [(Iv v1,I),(sl 5 jb v.2.ar,I),(sl 4 qu v.2.ae,I),(.ms 5 0 n,I)],.map qy,.iter (za a1.kind) d51,b,.cells cs]):=by
     rw[qm (show pr.bM 113=En gQ from rfl) (by simp)]
     simp only[go_sem,seval,gQ,z7 h2,h3,L9,pv,hfn,g,(show ∀n,below 4 (.ms 5 0 n)=I from fun _=>rfl),Bool.false_and,Bool.and_false,cond_false]<;>rfl
    have fz:ko [.cells [(Iv v1,I),(sl 5 jb v.2.ar,I),(sl 4 qu v.2.ae,I),(.ms 5 0 n,I)],.cells [(Iv v1,I),(sl 5 jb v.2.ar,I),(sl 4 qu v.2.ae,I),(.ms 5 0 n,I)],.map qy,.iter (za a1.kind) d51,b,.cells cs] (.ms 5 0 n)=En (sl 8 bj v.2.units):=by
     have hu:v.2.units=En (v.2.units.getD []):=by cases hq:v.2.units with
      |some _=>rfl
      |none=>rw[hq]at hs;cases hs
     rw[hn]at gK ⊢
     rw[hu]
     exact vY ec gK g2
    refine zx rfl this (v':=.aC [aG v1 v.2.ar v.2.ae v.2.units,Iv 0]) ?_ (by first|rfl|simp only[go_sem,seval])
    simp only[go_sem,seval,fz]<;>rfl
end Go.Z
end
