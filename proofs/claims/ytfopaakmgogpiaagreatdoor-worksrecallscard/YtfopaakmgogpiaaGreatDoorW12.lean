/- Chapter 10. -/
import Derived.Test.YtfopaakmgogpiaaGreatDoorV3
set_option linter.unusedVariables false
set_option linter.unusedSimpArgs false
set_option maxRecDepth 100000
set_option maxHeartbeats 4000000
noncomputable section
open Bool renaming false→I
open Option renaming some→Eh
namespace Go.Z
open Go Go.Abs Go.W
def f126 (a0:qc)(a1:ql):Option (qc×Int):=
 jw (zn (a1.names.getD []) 0) fun v1=>
 jw (f28 a0 v1) fun v3=>
 cond (decide (v3<0))
  (Eh (a0,10))
  (jw (zn (a0.ar.getD []) v3) fun v6=>
  cond (decide (a1.kind=([104,111,108,100]:List UInt8)))
   (cond v6.held
    (Eh (a0,34))
    (cond (decide (a1.kind=([102,114,101,101]:List UInt8)))
     (Eh (a0,20))
     (jw (f206 a0 v3 (⟨v6.name,v6.kind,v6.count,v6.left,true⟩)) fun v11=>
     Eh (v11,0))))
   (cond (decide (a1.kind=([102,114,101,101]:List UInt8)))
    (cond v6.held
     (jw (f206 a0 v3 (⟨v6.name,v6.kind,v6.count,v6.left,I⟩)) fun eO=>
     Eh (eO,0))
     (Eh (a0,20)))
    (jw (f206 a0 v3 (⟨v6.name,v6.kind,v6.count,v6.left,I⟩)) fun hO=>
    Eh (hO,0))))
theorem zij {a0 a1 r}(h:f126 a0 a1=Eh r):jy pr (X pr) 126 [aR a0,aE a1]=Eh (.ay [aR r.1,Iv r.2],I):=by
 unfold f126 at h
 refine yz tq ?_
 repeat' first|(replace h:=jx h;obtain⟨d,g,h⟩:=h;with_reducible first|replace g:=Fs g|replace g:=jrf g|skip)|(replace h:=jz h;rcases h with⟨g,h⟩|⟨g,h⟩)|fail
 all_goals (cases h<;>(simp only[go_sem,seval,tq,zj, *];exact⟨_,rfl⟩))
def f125 (a0:qc)(a1:ql):Option (qc×Int):=
 jw (zn (a1.names.getD []) 0) fun v1=>
 jw (f144 a0 v1) fun v3=>
 cond (decide (v3<0))
  (Eh (a0,10))
  (jw (zn (a0.ae.getD []) v3) fun v6=>
  cond (decide (a1.kind=([110,101,101,100]:List UInt8)))
   (jw (zn (a1.values.getD []) 1) fun v9=>
   cond (decide (10000<v9))
    (Eh (a0,3))
    (jw (zn (a1.names.getD []) 1) fun v12=>
    jw (f203 v6.dn (⟨v12,v9⟩)) fun dB=>
    cond dB.2
     (cond (decide (16<((dB.1.getD []).length:Int)))
      (Eh (a0,5))
      (jw (f205 a0 v3 (⟨v6.name,dB.1,v6.dt,v6.aO⟩)) fun iT=>
      Eh (iT,0)))
     (cond (decide (16<((dB.1.getD []).length:Int)))
      (Eh (a0,5))
      (jw (f205 a0 v3 (⟨v6.name,dB.1,v6.dt,v6.aO⟩)) fun v21=>
      Eh (v21,0)))))
   (cond (decide (a1.kind=([116,101,115,116]:List UInt8)))
    (jw (zn (a1.values.getD []) 2) fun v24=>
    jw (zn (a1.values.getD []) 1) fun eg=>
    cond (decide (v24<eg))
     (Eh (a0,11))
     (jw (zn (a1.names.getD []) 1) fun fc=>
     jw (f204 v6.dt (⟨fc,eg,v24⟩)) fun v31=>
     cond v31.2
      (cond (decide (16<((v31.1.getD []).length:Int)))
       (Eh (a0,5))
       (jw (f205 a0 v3 (⟨v6.name,v6.dn,v31.1,v6.aO⟩)) fun oV=>
       Eh (oV,0)))
      (cond (decide (16<((v31.1.getD []).length:Int)))
       (Eh (a0,5))
       (jw (f205 a0 v3 (⟨v6.name,v6.dn,v31.1,v6.aO⟩)) fun BP=>
       Eh (BP,0)))))
    (cond (decide (((v6.dn.getD []).length:Int)=0))
     (Eh (a0,12))
     (cond (decide (100≤((v6.aO.getD []).length:Int)))
      (Eh (a0,5))
      (jw (bj (Eh []) (v6.aO.getD [])) fun JI=>
      jw (bj JI [⟨v6.dn,v6.dt⟩]) fun BR=>
      jw (f205 a0 v3 (⟨v6.name,v6.dn,v6.dt,BR⟩)) fun v46=>
      Eh (v46,0))))))
theorem zf7 {a0 a1 r}(h:f125 a0 a1=Eh r):jy pr (X pr) 125 [aR a0,aE a1]=Eh (.ay [aR r.1,Iv r.2],I):=by
 unfold f125 at h
 refine yz wX ?_
 repeat' first|(replace h:=jx h;obtain⟨d,g,h⟩:=h;with_reducible first|replace g:=PB g|replace g:=zce g|replace g:=zco g|replace g:=zgq g|replace g:=q7v g|skip)|(replace h:=jz h;rcases h with⟨g,h⟩|⟨g,h⟩)|fail
 all_goals (cases h<;>(simp only[go_sem,seval,wX,zj,lN, *];exact⟨_,rfl⟩))
def yI (a0:qc)(a1:Int)(a2:ql)(v1:qf)(v5:Int)(v8:qm)(eO:qt)(s0:Bool×Int):Option ((Bool×Int)⊕((Bool×Int))):=
 cond (decide (s0.2<((eO.aI.getD []).length:Int)))
  (cond s0.1
   (Eh (.inl (true,j6 .i64 (s0.2+1))))
   (jw (zn (eO.aI.getD []) s0.2) fun eg=>
   Eh (.inl (decide (eg.k=v8.kind),j6 .i64 (s0.2+1)))))
  (Eh (.inr (s0.1,s0.2)))
def Kk (a0:qc)(a1:Int)(a2:ql)(v1:qf)(v5:Int)(v8:qm)(eO:qt)(s0:Bool×Int):qg:=⟨[(1,Iv a1,I),(3,.ah (aR a0),I),(5,.ah (aE a2),I),(6,.ptr 0 0,I),(8,.ptr 1 0,I),(9,Iv v5,I),(10,.ptr 2 0,I),(11,.ah (aD eO),I),(12,.bool s0.1,I),(13,Iv s0.2,I)],[kZ,.cells [(.str v1.name,I),(.str v1.product,I),(Iv v1.version,I),(sl 2 aV v1.uses,I),(sl 3 zx v1.results,I),(.str v1.partner,I),(.bool I,I),(Iv v1.aj,I)],.cells [(.str v8.name,I),(.str v8.kind,I),(Iv v8.count,I),(Iv v8.left,I),(.bool I,I)]]⟩
def Kl (a0:qc)(a1:Int)(a2:ql)(v1:qf)(v5:Int)(v8:qm)(eO:qt)(d:(Bool×Int)):qi×qg:=(.exit 0,⟨[(1,Iv a1,I),(3,.ah (aR a0),I),(5,.ah (aE a2),I),(6,.ptr 0 0,I),(8,.ptr 1 0,I),(9,Iv v5,I),(10,.ptr 2 0,I),(11,.ah (aD eO),I),(12,.bool d.1,I),(13,Iv d.2,I),(52,.bool I,I)],[kZ,.cells [(.str v1.name,I),(.str v1.product,I),(Iv v1.version,I),(sl 2 aV v1.uses,I),(sl 3 zx v1.results,I),(.str v1.partner,I),(.bool I,I),(Iv v1.aj,I)],.cells [(.str v8.name,I),(.str v8.kind,I),(Iv v8.count,I),(Iv v8.left,I),(.bool I,I)]]⟩)
theorem jwr (a0:qc)(a1:Int)(a2:ql)(v1:qf)(v5:Int)(v8:qm)(eO:qt)(s0:Bool×Int)(r)(h:yI a0 a1 a2 v1 v5 v8 eO s0=Eh r):yr pr Km (Kk a0 a1 a2 v1 v5 v8 eO) (Kl a0 a1 a2 v1 v5 v8 eO) s0 r:=by
 unfold yI at h
 repeat' first|(replace h:=jx h;obtain⟨d,g,h⟩:=h)|(replace h:=jz h;rcases h with⟨g,h⟩|⟨g,h⟩)|fail
 all_goals (cases h<;>(first|(refine zu ?_;simp only[go_sem,seval,Km,Kk,zj,Kl, *]<;>rfl)|(refine yl ?_;simp only[go_sem,seval,Km,Kk,zj,Kl, *]<;>rfl)))
theorem jq4 (a0:qc)(a1:Int)(a2:ql)(v1:qf)(v5:Int)(v8:qm)(eO:qt){s0 d}(h:aY (yI a0 a1 a2 v1 v5 v8 eO) s0=Eh d):X pr (.loop Km) (Kk a0 a1 a2 v1 v5 v8 eO s0)=Eh (Kl a0 a1 a2 v1 v5 v8 eO d):=y8 (jwr a0 a1 a2 v1 v5 v8 eO) (fun d hh=>by cases hh) h
def f207 (a0:qc)(a1:Int)(a2:ql):Option (qc×Int):=
 jw (zn (a0.units.getD []) a1) fun v1=>
 jw (zn (a2.names.getD []) 1) fun v3=>
 jw (f28 a0 v3) fun v5=>
 cond (decide (v5<0))
  (Eh (a0,10))
  (jw (zn (a0.ar.getD []) v5) fun v8=>
  cond v1.aq
   (Eh (a0,21))
   (jw (zn (a2.values.getD []) 1) fun v11=>
   cond (decide (v11=0))
    (Eh (a0,3))
    (cond v8.held
     (Eh (a0,34))
     (jw (f78 a0 (⟨v1.name,v1.product,v1.version,v1.uses,v1.results,v1.partner,I,v1.aj⟩)) fun eO=>
     jw (aY (yI a0 a1 a2 v1 v5 v8 eO) (I,0)) fun d28=>
     cond d28.1
      (cond (decide (v8.left<v11))
       (Eh (a0,4))
       (jw (f252 v1.uses v8.name v11) fun lm=>
       cond lm.2
        (jw (f206 a0 v5 (⟨v8.name,v8.kind,v8.count,j6 .i64 (v8.left-v11),I⟩)) fun oV=>
        jw (f209 oV a1 (⟨v1.name,v1.product,v1.version,lm.1,v1.results,v1.partner,I,v1.aj⟩)) fun v37=>
        Eh (v37,0))
        (jw (f206 a0 v5 (⟨v8.name,v8.kind,v8.count,j6 .i64 (v8.left-v11),I⟩)) fun pQ=>
        jw (f209 pQ a1 (⟨v1.name,v1.product,v1.version,lm.1,v1.results,v1.partner,I,v1.aj⟩)) fun BQ=>
        Eh (BQ,0))))
      (Eh (a0,7))))))
theorem zkc {a0 a1 a2 r}(h:f207 a0 a1 a2=Eh r):jy pr (X pr) 207 [aR a0,Iv a1,aE a2]=Eh (.ay [aR r.1,Iv r.2],I):=by
 unfold f207 at h
 refine yz tr ?_
 repeat' first|(replace h:=jx h;obtain⟨d,g,h⟩:=h;with_reducible first|replace g:=Fs g|replace g:=PL g|replace g:=ze4 g|replace g:=jrf g|replace g:=XS g|(replace g:=jq4 a0 a1 a2 _ _ _ _ g;dsimp only[Kk,Kl,y7]at g h)|skip)|(replace h:=jz h;rcases h with⟨g,h⟩|⟨g,h⟩)|fail
 all_goals (cases h<;>(simp only[go_sem,seval,tr,zj, *];exact⟨_,rfl⟩))
def f208 (a0:qc)(a1:Int)(a2:ql):Option (qc×Int):=
 jw (zn (a0.units.getD []) a1) fun v1=>
 jw (zn (a2.names.getD []) 1) fun v3=>
 jw (f27 a0 v3) fun v5=>
 cond (decide (v5<0))
  (Eh (a0,10))
  (jw (zn (a0.units.getD []) v5) fun v8=>
  cond (decide (v5=a1))
   (Eh (a0,9))
   (cond (decide (v1.product=v8.product))
    (cond (decide (v1.version=v8.version))
     (cond v1.aq
      (Eh (a0,21))
      (cond v8.aq
       (Eh (a0,21))
       (cond (decide (v1.partner=[]))
        (cond (decide (v8.partner=[]))
         (jw (f209 a0 a1 (⟨v1.name,v1.product,v1.version,v1.uses,v1.results,v8.name,I,v1.aj⟩)) fun hO=>
         jw (f209 hO v5 (⟨v8.name,v8.product,v8.version,v8.uses,v8.results,v1.name,I,v8.aj⟩)) fun nB=>
         Eh (nB,0))
         (Eh (a0,35)))
        (Eh (a0,35)))))
     (Eh (a0,30)))
    (Eh (a0,30))))
theorem zff {a0 a1 a2 r}(h:f208 a0 a1 a2=Eh r):jy pr (X pr) 208 [aR a0,Iv a1,aE a2]=Eh (.ay [aR r.1,Iv r.2],I):=by
 unfold f208 at h
 refine yz tu ?_
 repeat' first|(replace h:=jx h;obtain⟨d,g,h⟩:=h;with_reducible first|replace g:=Ft g|replace g:=XS g|skip)|(replace h:=jz h;rcases h with⟨g,h⟩|⟨g,h⟩)|fail
 all_goals (cases h<;>(simp only[go_sem,seval,tu,zj, *];exact⟨_,rfl⟩))
def yJ (a0:qc)(a1:ql)(v3:Int)(v6:qf)(da:qt)(s0:Bool×Int):Option ((Bool×Int)⊕((Bool×Int))):=
 cond (decide (s0.2<((da.aH.getD []).length:Int)))
  (cond s0.1
   (Eh (.inl (true,j6 .i64 (s0.2+1))))
   (jw (zn (da.aH.getD []) s0.2) fun v31=>
   jw (zn (a1.names.getD []) 1) fun kW=>
   Eh (.inl (decide (v31.k=kW),j6 .i64 (s0.2+1)))))
  (Eh (.inr (s0.1,s0.2)))
def Kn (a0:qc)(a1:ql)(v3:Int)(v6:qf)(da:qt)(s0:Bool×Int):qg:=⟨[(2,.ah (aR a0),I),(3,.ah (aE a1),I),(4,.ptr 0 0,I),(6,Iv v3,I),(7,.ptr 1 0,I),(8,.ah (aD da),I),(9,.bool s0.1,I),(10,Iv s0.2,I)],[kZ,.cells [(.str v6.name,I),(.str v6.product,I),(Iv v6.version,I),(sl 2 aV v6.uses,I),(sl 3 zx v6.results,I),(.str v6.partner,I),(.bool I,I),(Iv v6.aj,I)]]⟩
def Ko (a0:qc)(a1:ql)(v3:Int)(v6:qf)(da:qt)(d:(Bool×Int)):qi×qg:=(.exit 1,⟨[(2,.ah (aR a0),I),(3,.ah (aE a1),I),(4,.ptr 0 0,I),(6,Iv v3,I),(7,.ptr 1 0,I),(8,.ah (aD da),I),(9,.bool d.1,I),(10,Iv d.2,I),(64,.bool I,I)],[kZ,.cells [(.str v6.name,I),(.str v6.product,I),(Iv v6.version,I),(sl 2 aV v6.uses,I),(sl 3 zx v6.results,I),(.str v6.partner,I),(.bool I,I),(Iv v6.aj,I)]]⟩)
theorem juu (a0:qc)(a1:ql)(v3:Int)(v6:qf)(da:qt)(s0:Bool×Int)(r)(h:yJ a0 a1 v3 v6 da s0=Eh r):yr pr Kp (Kn a0 a1 v3 v6 da) (Ko a0 a1 v3 v6 da) s0 r:=by
 unfold yJ at h
 repeat' first|(replace h:=jx h;obtain⟨d,g,h⟩:=h)|(replace h:=jz h;rcases h with⟨g,h⟩|⟨g,h⟩)|fail
 all_goals (cases h<;>(first|(refine zu ?_;simp only[go_sem,seval,Kp,Kn,zj,Ko, *]<;>rfl)|(refine yl ?_;simp only[go_sem,seval,Kp,Kn,zj,Ko, *]<;>rfl)))
theorem jvn (a0:qc)(a1:ql)(v3:Int)(v6:qf)(da:qt){s0 d}(h:aY (yJ a0 a1 v3 v6 da) s0=Eh d):X pr (.loop Kp) (Kn a0 a1 v3 v6 da s0)=Eh (Ko a0 a1 v3 v6 da d):=y8 (juu a0 a1 v3 v6 da) (fun d hh=>by cases hh) h
def f127 (a0:qc)(a1:ql):Option (qc×Int):=
 jw (zn (a1.names.getD []) 0) fun v1=>
 jw (f27 a0 v1) fun v3=>
 cond (decide (v3<0))
  (Eh (a0,10))
  (jw (zn (a0.units.getD []) v3) fun v6=>
  cond (decide (a1.kind=([117,115,101]:List UInt8)))
   (jw (f207 a0 v3 a1) fun v9=>
   Eh (v9.1,v9.2))
   (cond (decide (a1.kind=([112,97,105,114]:List UInt8)))
    (jw (f208 a0 v3 a1) fun v12=>
    Eh (v12.1,v12.2))
    (cond (decide (a1.kind=([109,101,97,115,117,114,101]:List UInt8)))
     (cond v6.aq
      (Eh (a0,21))
      (jw (f78 a0 (⟨v6.name,v6.product,v6.version,v6.uses,v6.results,v6.partner,I,v6.aj⟩)) fun da=>
      jw (aY (yJ a0 a1 v3 v6 da) (I,0)) fun d35=>
      cond d35.1
       (cond (decide (64≤((v6.results.getD []).length:Int)))
        (Eh (a0,5))
        (jw (bj (Eh []) (v6.results.getD [])) fun pQ=>
        jw (zn (a1.names.getD []) 1) fun BQ=>
        jw (zn (a1.values.getD []) 1) fun JJ=>
        jw (bj pQ [⟨BQ,v6.version,JJ⟩]) fun yX=>
        jw (f209 a0 v3 (⟨v6.name,v6.product,v6.version,v6.uses,yX,v6.partner,I,v6.aj⟩)) fun v47=>
        Eh (v47,0)))
       (Eh (a0,7))))
     (cond (decide (a1.kind=([117,112,100,97,116,101]:List UInt8)))
      (cond v6.aq
       (Eh (a0,21))
       (jw (f80 a0 (⟨v6.name,v6.product,v6.version,v6.uses,v6.results,v6.partner,I,v6.aj⟩)) fun v51=>
       cond (decide (v6.version=v51))
        (Eh (a0,32))
        (jw (f209 a0 v3 (⟨v6.name,v6.product,v51,v6.uses,v6.results,v6.partner,I,v6.aj⟩)) fun tc=>
        Eh (tc,0))))
      (cond (decide (a1.kind=([115,104,105,112]:List UInt8)))
       (jw (f31 a0 v6) fun Fv=>
       cond (decide (Fv=0))
        (jw (f209 a0 v3 (⟨v6.name,v6.product,v6.version,v6.uses,v6.results,v6.partner,true,v6.aj⟩)) fun XY=>
        Eh (XY,0))
        (Eh (a0,Fv)))
       (cond v6.aq
        (jw (f209 a0 v3 (⟨v6.name,v6.product,v6.version,v6.uses,v6.results,v6.partner,true,j6 .i64 (v6.aj+1)⟩)) fun XZ=>
        Eh (XZ,0))
        (Eh (a0,20))))))))
theorem zjp {a0 a1 r}(h:f127 a0 a1=Eh r):jy pr (X pr) 127 [aR a0,aE a1]=Eh (.ay [aR r.1,Iv r.2],I):=by
 unfold f127 at h
 refine yz wY ?_
 repeat' first|(replace h:=jx h;obtain⟨d,g,h⟩:=h;with_reducible first|replace g:=Ft g|replace g:=zkc g|replace g:=zff g|replace g:=PL g|replace g:=XS g|replace g:=W80 g|replace g:=W31 g|replace g:=ES g|(replace g:=jvn a0 a1 _ _ _ g;dsimp only[Kn,Ko,y7]at g h)|skip)|(replace h:=jz h;rcases h with⟨g,h⟩|⟨g,h⟩)|fail
 all_goals (cases h<;>(simp only[go_sem,seval,wY,zj,lN, *];exact⟨_,rfl⟩))
def f69 (a0:qc)(a1:ql):Option (qc×Int):=
 jw (zn (a1.values.getD []) 0) fun v1=>
 cond (decide (v1<a0.day))
  (Eh (a0,20))
  (cond (decide (a1.kind=([108,111,116]:List UInt8)))
   (jw (f124 a0 a1) fun v5=>
   Eh (⟨v1,v5.1.ar,v5.1.ae,v5.1.units⟩,v5.2))
   (cond (decide (a1.kind=([112,114,111,100,117,99,116]:List UInt8)))
    (jw (f124 a0 a1) fun v8=>
    Eh (⟨v1,v8.1.ar,v8.1.ae,v8.1.units⟩,v8.2))
    (cond (decide (a1.kind=([98,117,105,108,100]:List UInt8)))
     (jw (f124 a0 a1) fun v11=>
     Eh (⟨v1,v11.1.ar,v11.1.ae,v11.1.units⟩,v11.2))
     (cond (decide (a1.kind=([110,101,101,100]:List UInt8)))
      (jw (f125 a0 a1) fun dB=>
      Eh (⟨v1,dB.1.ar,dB.1.ae,dB.1.units⟩,dB.2))
      (cond (decide (a1.kind=([116,101,115,116]:List UInt8)))
       (jw (f125 a0 a1) fun hO=>
       Eh (⟨v1,hO.1.ar,hO.1.ae,hO.1.units⟩,hO.2))
       (cond (decide (a1.kind=([105,115,115,117,101]:List UInt8)))
        (jw (f125 a0 a1) fun v20=>
        Eh (⟨v1,v20.1.ar,v20.1.ae,v20.1.units⟩,v20.2))
        (cond (decide (a1.kind=([104,111,108,100]:List UInt8)))
         (jw (f126 a0 a1) fun jH=>
         Eh (⟨v1,jH.1.ar,jH.1.ae,jH.1.units⟩,jH.2))
         (cond (decide (a1.kind=([102,114,101,101]:List UInt8)))
          (jw (f126 a0 a1) fun eg=>
          Eh (⟨v1,eg.1.ar,eg.1.ae,eg.1.units⟩,eg.2))
          (jw (f127 a0 a1) fun v28=>
          Eh (⟨v1,v28.1.ar,v28.1.ae,v28.1.units⟩,v28.2))))))))))
theorem W69 {a0 a1 r}(h:f69 a0 a1=Eh r):jy pr (X pr) 69 [aR a0,aE a1]=Eh (.ay [aR r.1,Iv r.2],I):=by
 unfold f69 at h
 refine yz PN ?_
 repeat' first|(replace h:=jx h;obtain⟨d,g,h⟩:=h;with_reducible first|replace g:=zgs g|replace g:=zf7 g|replace g:=zij g|replace g:=zjp g|skip)|(replace h:=jz h;rcases h with⟨g,h⟩|⟨g,h⟩)|fail
 all_goals (cases h<;>(simp only[go_sem,seval,PN,zj, *];exact⟨_,rfl⟩))
end Go.Z
end
