/- Chapter 10. -/
import Derived.Test.YtfopaakmgogpiaaGreatDoorV3
set_option maxRecDepth 100000
set_option maxHeartbeats 4000000
noncomputable section
open Bool renaming false→I
open Option renaming some→En
namespace Go.Z
open Go Go.Abs Go.W
def f126 (a0:qc)(a1:qm):Option (qc×Int):=
 jx (zp (a1.names.getD []) 0) fun v1=>
 jx (f28 a0 v1) fun v3=>
 cond (decide (v3<0))
  (En (a0,10))
  (jx (zp (a0.au.getD []) v3) fun v6=>
  cond (decide (a1.kind=([104,111,108,100]:List UInt8)))
   (cond v6.held
    (En (a0,34))
    (cond (decide (a1.kind=([102,114,101,101]:List UInt8)))
     (En (a0,20))
     (jx (f206 a0 v3 (⟨v6.name,v6.kind,v6.count,v6.left,true⟩)) fun v11=>
     En (v11,0))))
   (cond (decide (a1.kind=([102,114,101,101]:List UInt8)))
    (cond v6.held
     (jx (f206 a0 v3 (⟨v6.name,v6.kind,v6.count,v6.left,I⟩)) fun eY=>
     En (eY,0))
     (En (a0,20)))
    (jx (f206 a0 v3 (⟨v6.name,v6.kind,v6.count,v6.left,I⟩)) fun fQ=>
    En (fQ,0))))
theorem zdi {a0:qc}{a1:qm}{r}(h:f126 a0 a1=En r):jz pr (X pr) 126 [aR a0,aE a1]=En (.aC [aR r.1,Iv r.2],I):=by
 unfold f126 at h
 refine y7 sI ?_
 repeat' first|(replace h:=jy h;obtain⟨d,g,h⟩:=h;with_reducible first|replace g:=H3 g|replace g:=jqr g|skip)|(replace h:=j6 h;rcases h with⟨g,h⟩|⟨g,h⟩)|fail
 all_goals (cases h<;>(simp only[go_sem,seval,sI,zn, *];exact⟨_,rfl⟩))
def f125 (a0:qc)(a1:qm):Option (qc×Int):=
 jx (zp (a1.names.getD []) 0) fun v1=>
 jx (f144 a0 v1) fun v3=>
 cond (decide (v3<0))
  (En (a0,10))
  (jx (zp (a0.ae.getD []) v3) fun v6=>
  cond (decide (a1.kind=([110,101,101,100]:List UInt8)))
   (jx (zp (a1.values.getD []) 1) fun v9=>
   cond (decide (10000<v9))
    (En (a0,3))
    (jx (zp (a1.names.getD []) 1) fun v12=>
    jx (f203 v6.dn (⟨v12,v9⟩)) fun dz=>
    cond dz.2
     (cond (decide (16<((dz.1.getD []).length:Int)))
      (En (a0,5))
      (jx (f205 a0 v3 (⟨v6.name,dz.1,v6.dt,v6.aH⟩)) fun gq=>
      En (gq,0)))
     (cond (decide (16<((dz.1.getD []).length:Int)))
      (En (a0,5))
      (jx (f205 a0 v3 (⟨v6.name,dz.1,v6.dt,v6.aH⟩)) fun v21=>
      En (v21,0)))))
   (cond (decide (a1.kind=([116,101,115,116]:List UInt8)))
    (jx (zp (a1.values.getD []) 2) fun v24=>
    jx (zp (a1.values.getD []) 1) fun eI=>
    cond (decide (v24<eI))
     (En (a0,11))
     (jx (zp (a1.names.getD []) 1) fun fk=>
     jx (f204 v6.dt (⟨fk,eI,v24⟩)) fun v31=>
     cond v31.2
      (cond (decide (16<((v31.1.getD []).length:Int)))
       (En (a0,5))
       (jx (f205 a0 v3 (⟨v6.name,v6.dn,v31.1,v6.aH⟩)) fun vK=>
       En (vK,0)))
      (cond (decide (16<((v31.1.getD []).length:Int)))
       (En (a0,5))
       (jx (f205 a0 v3 (⟨v6.name,v6.dn,v31.1,v6.aH⟩)) fun rX=>
       En (rX,0)))))
    (cond (decide (((v6.dn.getD []).length:Int)=0))
     (En (a0,12))
     (cond (decide (100≤((v6.aH.getD []).length:Int)))
      (En (a0,5))
      (jx (bg (En []) (v6.aH.getD [])) fun Wi=>
      jx (bg Wi [⟨v6.dn,v6.dt⟩]) fun oz=>
      jx (f205 a0 v3 (⟨v6.name,v6.dn,v6.dt,oz⟩)) fun v46=>
      En (v46,0))))))
theorem zgf {a0:qc}{a1:qm}{r}(h:f125 a0 a1=En r):jz pr (X pr) 125 [aR a0,aE a1]=En (.aC [aR r.1,Iv r.2],I):=by
 unfold f125 at h
 refine y7 vW ?_
 repeat' first|(replace h:=jy h;obtain⟨d,g,h⟩:=h;with_reducible first|replace g:=NU g|replace g:=zh8 g|replace g:=zd1 g|replace g:=zb7 g|replace g:=UW g|skip)|(replace h:=j6 h;rcases h with⟨g,h⟩|⟨g,h⟩)|fail
 all_goals (cases h<;>(simp only[go_sem,seval,vW,zn,lT, *];exact⟨_,rfl⟩))
def xC (a0:qc)(a1:Int)(a2:qm)(v1:qe)(v5:Int)(v8:qj)(eY:qr)(s0:Bool×Int):Option ((Bool×Int)⊕((Bool×Int))):=
 cond (decide (s0.2<((eY.ax.getD []).length:Int)))
  (cond s0.1
   (En (.inl (true,j9 .i64 (s0.2+1))))
   (jx (zp (eY.ax.getD []) s0.2) fun eI=>
   En (.inl (decide (eI.k=v8.kind),j9 .i64 (s0.2+1)))))
  (En (.inr (s0.1,s0.2)))
def IH (a0:qc)(a1:Int)(a2:qm)(v1:qe)(v5:Int)(v8:qj)(eY:qr)(s0:Bool×Int):qg:=⟨[(1,Iv a1,I),(3,.ah (aR a0),I),(5,.ah (aE a2),I),(6,.ptr 0 0,I),(8,.ptr 1 0,I),(9,Iv v5,I),(10,.ptr 2 0,I),(11,.ah (aD eY),I),(12,.bool s0.1,I),(13,Iv s0.2,I)],[kZ,.cells [(.str v1.name,I),(.str v1.product,I),(Iv v1.version,I),(sl 2 aS v1.uses,I),(sl 3 z6 v1.results,I),(.str v1.partner,I),(.bool I,I),(Iv v1.ai,I)],.cells [(.str v8.name,I),(.str v8.kind,I),(Iv v8.count,I),(Iv v8.left,I),(.bool I,I)]]⟩
def II (a0:qc)(a1:Int)(a2:qm)(v1:qe)(v5:Int)(v8:qj)(eY:qr)(d:(Bool×Int)):qo×qg:=(.exit 0,⟨[(1,Iv a1,I),(3,.ah (aR a0),I),(5,.ah (aE a2),I),(6,.ptr 0 0,I),(8,.ptr 1 0,I),(9,Iv v5,I),(10,.ptr 2 0,I),(11,.ah (aD eY),I),(12,.bool d.1,I),(13,Iv d.2,I),(52,.bool I,I)],[kZ,.cells [(.str v1.name,I),(.str v1.product,I),(Iv v1.version,I),(sl 2 aS v1.uses,I),(sl 3 z6 v1.results,I),(.str v1.partner,I),(.bool I,I),(Iv v1.ai,I)],.cells [(.str v8.name,I),(.str v8.kind,I),(Iv v8.count,I),(Iv v8.left,I),(.bool I,I)]]⟩)
theorem jpd (a0:qc)(a1:Int)(a2:qm)(v1:qe)(v5:Int)(v8:qj)(eY:qr)(s0:Bool×Int)(r)(h:xC a0 a1 a2 v1 v5 v8 eY s0=En r):yo pr IJ (IH a0 a1 a2 v1 v5 v8 eY) (II a0 a1 a2 v1 v5 v8 eY) s0 r:=by
 unfold xC at h
 repeat' first|(replace h:=jy h;obtain⟨d,g,h⟩:=h)|(replace h:=j6 h;rcases h with⟨g,h⟩|⟨g,h⟩)|fail
 all_goals (cases h<;>(first|(refine zy ?_;simp only[go_sem,seval,IJ,IH,zn,II, *]<;>rfl)|(refine yh ?_;simp only[go_sem,seval,IJ,IH,zn,II, *]<;>rfl)))
theorem js4 (a0:qc)(a1:Int)(a2:qm)(v1:qe)(v5:Int)(v8:qj)(eY:qr){s0:Bool×Int}{d}(h:bf (xC a0 a1 a2 v1 v5 v8 eY) s0=En d):X pr (.loop IJ) (IH a0 a1 a2 v1 v5 v8 eY s0)=En (II a0 a1 a2 v1 v5 v8 eY d):=yz (jpd a0 a1 a2 v1 v5 v8 eY) (fun d hh=>by cases hh) h
def f207 (a0:qc)(a1:Int)(a2:qm):Option (qc×Int):=
 jx (zp (a0.units.getD []) a1) fun v1=>
 jx (zp (a2.names.getD []) 1) fun v3=>
 jx (f28 a0 v3) fun v5=>
 cond (decide (v5<0))
  (En (a0,10))
  (jx (zp (a0.au.getD []) v5) fun v8=>
  cond v1.ar
   (En (a0,21))
   (jx (zp (a2.values.getD []) 1) fun v11=>
   cond (decide (v11=0))
    (En (a0,3))
    (cond v8.held
     (En (a0,34))
     (jx (f78 a0 (⟨v1.name,v1.product,v1.version,v1.uses,v1.results,v1.partner,I,v1.ai⟩)) fun eY=>
     jx (bf (xC a0 a1 a2 v1 v5 v8 eY) (I,0)) fun d28=>
     cond d28.1
      (cond (decide (v8.left<v11))
       (En (a0,4))
       (jx (f252 v1.uses v8.name v11) fun kM=>
       cond kM.2
        (jx (f206 a0 v5 (⟨v8.name,v8.kind,v8.count,j9 .i64 (v8.left-v11),I⟩)) fun vK=>
        jx (f209 vK a1 (⟨v1.name,v1.product,v1.version,kM.1,v1.results,v1.partner,I,v1.ai⟩)) fun v37=>
        En (v37,0))
        (jx (f206 a0 v5 (⟨v8.name,v8.kind,v8.count,j9 .i64 (v8.left-v11),I⟩)) fun Wu=>
        jx (f209 Wu a1 (⟨v1.name,v1.product,v1.version,kM.1,v1.results,v1.partner,I,v1.ai⟩)) fun vM=>
        En (vM,0))))
      (En (a0,7))))))
theorem ze9 {a0:qc}{a1:Int}{a2:qm}{r}(h:f207 a0 a1 a2=En r):jz pr (X pr) 207 [aR a0,Iv a1,aE a2]=En (.aC [aR r.1,Iv r.2],I):=by
 unfold f207 at h
 refine y7 sJ ?_
 repeat' first|(replace h:=jy h;obtain⟨d,g,h⟩:=h;with_reducible first|replace g:=H3 g|replace g:=N5 g|replace g:=zdw g|replace g:=jqr g|replace g:=Wh g|(replace g:=js4 a0 a1 a2 _ _ _ _ g;dsimp only[IH,II,y8]at g h)|skip)|(replace h:=j6 h;rcases h with⟨g,h⟩|⟨g,h⟩)|fail
 all_goals (cases h<;>(simp only[go_sem,seval,sJ,zn, *];exact⟨_,rfl⟩))
def f208 (a0:qc)(a1:Int)(a2:qm):Option (qc×Int):=
 jx (zp (a0.units.getD []) a1) fun v1=>
 jx (zp (a2.names.getD []) 1) fun v3=>
 jx (f27 a0 v3) fun v5=>
 cond (decide (v5<0))
  (En (a0,10))
  (jx (zp (a0.units.getD []) v5) fun v8=>
  cond (decide (v5=a1))
   (En (a0,9))
   (cond (decide (v1.product=v8.product))
    (cond (decide (v1.version=v8.version))
     (cond v1.ar
      (En (a0,21))
      (cond v8.ar
       (En (a0,21))
       (cond (decide (v1.partner=[]))
        (cond (decide (v8.partner=[]))
         (jx (f209 a0 a1 (⟨v1.name,v1.product,v1.version,v1.uses,v1.results,v8.name,I,v1.ai⟩)) fun fQ=>
         jx (f209 fQ v5 (⟨v8.name,v8.product,v8.version,v8.uses,v8.results,v1.name,I,v8.ai⟩)) fun ng=>
         En (ng,0))
         (En (a0,35)))
        (En (a0,35)))))
     (En (a0,30)))
    (En (a0,30))))
theorem zdp {a0:qc}{a1:Int}{a2:qm}{r}(h:f208 a0 a1 a2=En r):jz pr (X pr) 208 [aR a0,Iv a1,aE a2]=En (.aC [aR r.1,Iv r.2],I):=by
 unfold f208 at h
 refine y7 sK ?_
 repeat' first|(replace h:=jy h;obtain⟨d,g,h⟩:=h;with_reducible first|replace g:=Wj g|replace g:=Wh g|skip)|(replace h:=j6 h;rcases h with⟨g,h⟩|⟨g,h⟩)|fail
 all_goals (cases h<;>(simp only[go_sem,seval,sK,zn, *];exact⟨_,rfl⟩))
def xD (a0:qc)(a1:qm)(v3:Int)(v6:qe)(dm:qr)(s0:Bool×Int):Option ((Bool×Int)⊕((Bool×Int))):=
 cond (decide (s0.2<((dm.aw.getD []).length:Int)))
  (cond s0.1
   (En (.inl (true,j9 .i64 (s0.2+1))))
   (jx (zp (dm.aw.getD []) s0.2) fun v31=>
   jx (zp (a1.names.getD []) 1) fun vP=>
   En (.inl (decide (v31.k=vP),j9 .i64 (s0.2+1)))))
  (En (.inr (s0.1,s0.2)))
def IK (a0:qc)(a1:qm)(v3:Int)(v6:qe)(dm:qr)(s0:Bool×Int):qg:=⟨[(2,.ah (aR a0),I),(3,.ah (aE a1),I),(4,.ptr 0 0,I),(6,Iv v3,I),(7,.ptr 1 0,I),(8,.ah (aD dm),I),(9,.bool s0.1,I),(10,Iv s0.2,I)],[kZ,.cells [(.str v6.name,I),(.str v6.product,I),(Iv v6.version,I),(sl 2 aS v6.uses,I),(sl 3 z6 v6.results,I),(.str v6.partner,I),(.bool I,I),(Iv v6.ai,I)]]⟩
def IL (a0:qc)(a1:qm)(v3:Int)(v6:qe)(dm:qr)(d:(Bool×Int)):qo×qg:=(.exit 1,⟨[(2,.ah (aR a0),I),(3,.ah (aE a1),I),(4,.ptr 0 0,I),(6,Iv v3,I),(7,.ptr 1 0,I),(8,.ah (aD dm),I),(9,.bool d.1,I),(10,Iv d.2,I),(64,.bool I,I)],[kZ,.cells [(.str v6.name,I),(.str v6.product,I),(Iv v6.version,I),(sl 2 aS v6.uses,I),(sl 3 z6 v6.results,I),(.str v6.partner,I),(.bool I,I),(Iv v6.ai,I)]]⟩)
theorem jqe (a0:qc)(a1:qm)(v3:Int)(v6:qe)(dm:qr)(s0:Bool×Int)(r)(h:xD a0 a1 v3 v6 dm s0=En r):yo pr IP (IK a0 a1 v3 v6 dm) (IL a0 a1 v3 v6 dm) s0 r:=by
 unfold xD at h
 repeat' first|(replace h:=jy h;obtain⟨d,g,h⟩:=h)|(replace h:=j6 h;rcases h with⟨g,h⟩|⟨g,h⟩)|fail
 all_goals (cases h<;>(first|(refine zy ?_;simp only[go_sem,seval,IP,IK,zn,IL, *]<;>rfl)|(refine yh ?_;simp only[go_sem,seval,IP,IK,zn,IL, *]<;>rfl)))
theorem jrt (a0:qc)(a1:qm)(v3:Int)(v6:qe)(dm:qr){s0:Bool×Int}{d}(h:bf (xD a0 a1 v3 v6 dm) s0=En d):X pr (.loop IP) (IK a0 a1 v3 v6 dm s0)=En (IL a0 a1 v3 v6 dm d):=yz (jqe a0 a1 v3 v6 dm) (fun d hh=>by cases hh) h
def f127 (a0:qc)(a1:qm):Option (qc×Int):=
 jx (zp (a1.names.getD []) 0) fun v1=>
 jx (f27 a0 v1) fun v3=>
 cond (decide (v3<0))
  (En (a0,10))
  (jx (zp (a0.units.getD []) v3) fun v6=>
  cond (decide (a1.kind=([117,115,101]:List UInt8)))
   (jx (f207 a0 v3 a1) fun v9=>
   En (v9.1,v9.2))
   (cond (decide (a1.kind=([112,97,105,114]:List UInt8)))
    (jx (f208 a0 v3 a1) fun v12=>
    En (v12.1,v12.2))
    (cond (decide (a1.kind=([109,101,97,115,117,114,101]:List UInt8)))
     (cond v6.ar
      (En (a0,21))
      (jx (f78 a0 (⟨v6.name,v6.product,v6.version,v6.uses,v6.results,v6.partner,I,v6.ai⟩)) fun dm=>
      jx (bf (xD a0 a1 v3 v6 dm) (I,0)) fun d35=>
      cond d35.1
       (cond (decide (64≤((v6.results.getD []).length:Int)))
        (En (a0,5))
        (jx (bg (En []) (v6.results.getD [])) fun Wu=>
        jx (zp (a1.names.getD []) 1) fun vM=>
        jx (zp (a1.values.getD []) 1) fun pg=>
        jx (bg Wu [⟨vM,v6.version,pg⟩]) fun xQ=>
        jx (f209 a0 v3 (⟨v6.name,v6.product,v6.version,v6.uses,xQ,v6.partner,I,v6.ai⟩)) fun v47=>
        En (v47,0)))
       (En (a0,7))))
     (cond (decide (a1.kind=([117,112,100,97,116,101]:List UInt8)))
      (cond v6.ar
       (En (a0,21))
       (jx (f80 a0 (⟨v6.name,v6.product,v6.version,v6.uses,v6.results,v6.partner,I,v6.ai⟩)) fun v51=>
       cond (decide (v6.version=v51))
        (En (a0,32))
        (jx (f209 a0 v3 (⟨v6.name,v6.product,v51,v6.uses,v6.results,v6.partner,I,v6.ai⟩)) fun NZ=>
        En (NZ,0))))
      (cond (decide (a1.kind=([115,104,105,112]:List UInt8)))
       (jx (f31 a0 v6) fun N0=>
       cond (decide (N0=0))
        (jx (f209 a0 v3 (⟨v6.name,v6.product,v6.version,v6.uses,v6.results,v6.partner,true,v6.ai⟩)) fun v60=>
        En (v60,0))
        (En (a0,N0)))
       (cond v6.ar
        (jx (f209 a0 v3 (⟨v6.name,v6.product,v6.version,v6.uses,v6.results,v6.partner,true,j9 .i64 (v6.ai+1)⟩)) fun v63=>
        En (v63,0))
        (En (a0,20))))))))
theorem zba {a0:qc}{a1:qm}{r}(h:f127 a0 a1=En r):jz pr (X pr) 127 [aR a0,aE a1]=En (.aC [aR r.1,Iv r.2],I):=by
 unfold f127 at h
 refine y7 vX ?_
 repeat' first|(replace h:=jy h;obtain⟨d,g,h⟩:=h;with_reducible first|replace g:=Wj g|replace g:=ze9 g|replace g:=zdp g|replace g:=N5 g|replace g:=Wh g|replace g:=W80 g|replace g:=W31 g|replace g:=xf g|(replace g:=jrt a0 a1 _ _ _ g;dsimp only[IK,IL,y8]at g h)|skip)|(replace h:=j6 h;rcases h with⟨g,h⟩|⟨g,h⟩)|fail
 all_goals (cases h<;>(simp only[go_sem,seval,vX,zn,lT, *];exact⟨_,rfl⟩))
def f69 (a0:qc)(a1:qm):Option (qc×Int):=
 jx (zp (a1.values.getD []) 0) fun v1=>
 cond (decide (v1<a0.day))
  (En (a0,20))
  (cond (decide (a1.kind=([108,111,116]:List UInt8)))
   (jx (f124 a0 a1) fun v5=>
   En (⟨v1,v5.1.au,v5.1.ae,v5.1.units⟩,v5.2))
   (cond (decide (a1.kind=([112,114,111,100,117,99,116]:List UInt8)))
    (jx (f124 a0 a1) fun v8=>
    En (⟨v1,v8.1.au,v8.1.ae,v8.1.units⟩,v8.2))
    (cond (decide (a1.kind=([98,117,105,108,100]:List UInt8)))
     (jx (f124 a0 a1) fun v11=>
     En (⟨v1,v11.1.au,v11.1.ae,v11.1.units⟩,v11.2))
     (cond (decide (a1.kind=([110,101,101,100]:List UInt8)))
      (jx (f125 a0 a1) fun dz=>
      En (⟨v1,dz.1.au,dz.1.ae,dz.1.units⟩,dz.2))
      (cond (decide (a1.kind=([116,101,115,116]:List UInt8)))
       (jx (f125 a0 a1) fun fQ=>
       En (⟨v1,fQ.1.au,fQ.1.ae,fQ.1.units⟩,fQ.2))
       (cond (decide (a1.kind=([105,115,115,117,101]:List UInt8)))
        (jx (f125 a0 a1) fun v20=>
        En (⟨v1,v20.1.au,v20.1.ae,v20.1.units⟩,v20.2))
        (cond (decide (a1.kind=([104,111,108,100]:List UInt8)))
         (jx (f126 a0 a1) fun kC=>
         En (⟨v1,kC.1.au,kC.1.ae,kC.1.units⟩,kC.2))
         (cond (decide (a1.kind=([102,114,101,101]:List UInt8)))
          (jx (f126 a0 a1) fun eI=>
          En (⟨v1,eI.1.au,eI.1.ae,eI.1.units⟩,eI.2))
          (jx (f127 a0 a1) fun v28=>
          En (⟨v1,v28.1.au,v28.1.ae,v28.1.units⟩,v28.2))))))))))
theorem W69 {a0:qc}{a1:qm}{r}(h:f69 a0 a1=En r):jz pr (X pr) 69 [aR a0,aE a1]=En (.aC [aR r.1,Iv r.2],I):=by
 unfold f69 at h
 refine y7 N6 ?_
 repeat' first|(replace h:=jy h;obtain⟨d,g,h⟩:=h;with_reducible first|replace g:=zco g|replace g:=zgf g|replace g:=zdi g|replace g:=zba g|skip)|(replace h:=j6 h;rcases h with⟨g,h⟩|⟨g,h⟩)|fail
 all_goals (cases h<;>(simp only[go_sem,seval,N6,zn, *];exact⟨_,rfl⟩))
end Go.Z
end
