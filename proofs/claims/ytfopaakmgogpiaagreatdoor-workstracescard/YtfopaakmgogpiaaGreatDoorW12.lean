/- Chapter 10. -/
import Derived.Test.YtfopaakmgogpiaaGreatDoorV3
set_option linter.unusedVariables false
set_option linter.unusedSimpArgs false
set_option maxRecDepth 100000
set_option maxHeartbeats 4000000
noncomputable section
open Bool renaming false→I
open Option renaming some→Eh
namespace Go.Z
open Go Go.Abs Go.W
def f126 (a0:qc)(a1:ql):Option (qc×Int):=
 jx (zq (a1.names.getD []) 0) fun v1=>
 jx (f28 a0 v1) fun v3=>
 cond (decide (v3<0))
  (Eh (a0,10))
  (jx (zq (a0.aq.getD []) v3) fun v6=>
  cond (decide (a1.kind=([104,111,108,100]:List UInt8)))
   (cond v6.held
    (Eh (a0,34))
    (cond (decide (a1.kind=([102,114,101,101]:List UInt8)))
     (Eh (a0,20))
     (jx (f206 a0 v3 (⟨v6.name,v6.kind,v6.count,v6.left,true⟩)) fun v11=>
     Eh (v11,0))))
   (cond (decide (a1.kind=([102,114,101,101]:List UInt8)))
    (cond v6.held
     (jx (f206 a0 v3 (⟨v6.name,v6.kind,v6.count,v6.left,I⟩)) fun da=>
     Eh (da,0))
     (Eh (a0,20)))
    (jx (f206 a0 v3 (⟨v6.name,v6.kind,v6.count,v6.left,I⟩)) fun dr=>
    Eh (dr,0))))
theorem j9v {a0:qc}{a1:ql}{r}(h:f126 a0 a1=Eh r):jz pr (X pr) 126 [aR a0,aE a1]=Eh (.az [aR r.1,Iv r.2],I):=by
 unfold f126 at h
 refine yt sT ?_
 repeat' first|(replace h:=jy h;obtain⟨d,g,h⟩:=h;with_reducible first|replace g:=Eu g|replace g:=jt2 g|skip)|(replace h:=j6 h;rcases h with⟨g,h⟩|⟨g,h⟩)|fail
 all_goals (cases h<;>(simp only[go_sem,seval,sT,zn, *];exact⟨_,rfl⟩))
def f125 (a0:qc)(a1:ql):Option (qc×Int):=
 jx (zq (a1.names.getD []) 0) fun v1=>
 jx (f144 a0 v1) fun v3=>
 cond (decide (v3<0))
  (Eh (a0,10))
  (jx (zq (a0.ae.getD []) v3) fun v6=>
  cond (decide (a1.kind=([110,101,101,100]:List UInt8)))
   (jx (zq (a1.values.getD []) 1) fun v9=>
   cond (decide (10000<v9))
    (Eh (a0,3))
    (jx (zq (a1.names.getD []) 1) fun v12=>
    jx (f203 v6.dn (⟨v12,v9⟩)) fun ei=>
    cond ei.2
     (cond (decide (16<((ei.1.getD []).length:Int)))
      (Eh (a0,5))
      (jx (f205 a0 v3 (⟨v6.name,ei.1,v6.dt,v6.aO⟩)) fun iP=>
      Eh (iP,0)))
     (cond (decide (16<((ei.1.getD []).length:Int)))
      (Eh (a0,5))
      (jx (f205 a0 v3 (⟨v6.name,ei.1,v6.dt,v6.aO⟩)) fun v21=>
      Eh (v21,0)))))
   (cond (decide (a1.kind=([116,101,115,116]:List UInt8)))
    (jx (zq (a1.values.getD []) 2) fun v24=>
    jx (zq (a1.values.getD []) 1) fun dM=>
    cond (decide (v24<dM))
     (Eh (a0,11))
     (jx (zq (a1.names.getD []) 1) fun fV=>
     jx (f204 v6.dt (⟨fV,dM,v24⟩)) fun v31=>
     cond v31.2
      (cond (decide (16<((v31.1.getD []).length:Int)))
       (Eh (a0,5))
       (jx (f205 a0 v3 (⟨v6.name,v6.dn,v31.1,v6.aO⟩)) fun oG=>
       Eh (oG,0)))
      (cond (decide (16<((v31.1.getD []).length:Int)))
       (Eh (a0,5))
       (jx (f205 a0 v3 (⟨v6.name,v6.dn,v31.1,v6.aO⟩)) fun Bh=>
       Eh (Bh,0)))))
    (cond (decide (((v6.dn.getD []).length:Int)=0))
     (Eh (a0,12))
     (cond (decide (100≤((v6.aO.getD []).length:Int)))
      (Eh (a0,5))
      (jx (bp (Eh []) (v6.aO.getD [])) fun Wg=>
      jx (bp Wg [⟨v6.dn,v6.dt⟩]) fun vi=>
      jx (f205 a0 v3 (⟨v6.name,v6.dn,v6.dt,vi⟩)) fun v46=>
      Eh (v46,0))))))
theorem zes {a0:qc}{a1:ql}{r}(h:f125 a0 a1=Eh r):jz pr (X pr) 125 [aR a0,aE a1]=Eh (.az [aR r.1,Iv r.2],I):=by
 unfold f125 at h
 refine yt wI ?_
 repeat' first|(replace h:=jy h;obtain⟨d,g,h⟩:=h;with_reducible first|replace g:=N6 g|replace g:=zhq g|replace g:=zcq g|replace g:=zhi g|replace g:=q5w g|skip)|(replace h:=j6 h;rcases h with⟨g,h⟩|⟨g,h⟩)|fail
 all_goals (cases h<;>(simp only[go_sem,seval,wI,zn,lX, *];exact⟨_,rfl⟩))
def xY (a0:qc)(a1:Int)(a2:ql)(v1:qe)(v5:Int)(v8:qj)(da:qt)(s0:Bool×Int):Option ((Bool×Int)⊕((Bool×Int))):=
 cond (decide (s0.2<((da.aF.getD []).length:Int)))
  (cond s0.1
   (Eh (.inl (true,j9 .i64 (s0.2+1))))
   (jx (zq (da.aF.getD []) s0.2) fun dM=>
   Eh (.inl (decide (dM.k=v8.kind),j9 .i64 (s0.2+1)))))
  (Eh (.inr (s0.1,s0.2)))
def Jb (a0:qc)(a1:Int)(a2:ql)(v1:qe)(v5:Int)(v8:qj)(da:qt)(s0:Bool×Int):qh:=⟨[(1,Iv a1,I),(3,.ah (aR a0),I),(5,.ah (aE a2),I),(6,.ptr 0 0,I),(8,.ptr 1 0,I),(9,Iv v5,I),(10,.ptr 2 0,I),(11,.ah (aD da),I),(12,.bool s0.1,I),(13,Iv s0.2,I)],[kZ,.cells [(.str v1.name,I),(.str v1.product,I),(Iv v1.version,I),(sl 2 aV v1.uses,I),(sl 3 zz v1.results,I),(.str v1.partner,I),(.bool I,I),(Iv v1.aj,I)],.cells [(.str v8.name,I),(.str v8.kind,I),(Iv v8.count,I),(Iv v8.left,I),(.bool I,I)]]⟩
def Jc (a0:qc)(a1:Int)(a2:ql)(v1:qe)(v5:Int)(v8:qj)(da:qt)(d:(Bool×Int)):qo×qh:=(.exit 0,⟨[(1,Iv a1,I),(3,.ah (aR a0),I),(5,.ah (aE a2),I),(6,.ptr 0 0,I),(8,.ptr 1 0,I),(9,Iv v5,I),(10,.ptr 2 0,I),(11,.ah (aD da),I),(12,.bool d.1,I),(13,Iv d.2,I),(52,.bool I,I)],[kZ,.cells [(.str v1.name,I),(.str v1.product,I),(Iv v1.version,I),(sl 2 aV v1.uses,I),(sl 3 zz v1.results,I),(.str v1.partner,I),(.bool I,I),(Iv v1.aj,I)],.cells [(.str v8.name,I),(.str v8.kind,I),(Iv v8.count,I),(Iv v8.left,I),(.bool I,I)]]⟩)
theorem jrb (a0:qc)(a1:Int)(a2:ql)(v1:qe)(v5:Int)(v8:qj)(da:qt)(s0:Bool×Int)(r)(h:xY a0 a1 a2 v1 v5 v8 da s0=Eh r):y5 pr Jd (Jb a0 a1 a2 v1 v5 v8 da) (Jc a0 a1 a2 v1 v5 v8 da) s0 r:=by
 unfold xY at h
 repeat' first|(replace h:=jy h;obtain⟨d,g,h⟩:=h)|(replace h:=j6 h;rcases h with⟨g,h⟩|⟨g,h⟩)|fail
 all_goals (cases h<;>(first|(refine z6 ?_;simp only[go_sem,seval,Jd,Jb,zn,Jc, *]<;>rfl)|(refine yo ?_;simp only[go_sem,seval,Jd,Jb,zn,Jc, *]<;>rfl)))
theorem jsf (a0:qc)(a1:Int)(a2:ql)(v1:qe)(v5:Int)(v8:qj)(da:qt){s0:Bool×Int}{d}(h:bj (xY a0 a1 a2 v1 v5 v8 da) s0=Eh d):X pr (.loop Jd) (Jb a0 a1 a2 v1 v5 v8 da s0)=Eh (Jc a0 a1 a2 v1 v5 v8 da d):=kl (jrb a0 a1 a2 v1 v5 v8 da) (fun d hh=>by cases hh) h
def f207 (a0:qc)(a1:Int)(a2:ql):Option (qc×Int):=
 jx (zq (a0.units.getD []) a1) fun v1=>
 jx (zq (a2.names.getD []) 1) fun v3=>
 jx (f28 a0 v3) fun v5=>
 cond (decide (v5<0))
  (Eh (a0,10))
  (jx (zq (a0.aq.getD []) v5) fun v8=>
  cond v1.ar
   (Eh (a0,21))
   (jx (zq (a2.values.getD []) 1) fun v11=>
   cond (decide (v11=0))
    (Eh (a0,3))
    (cond v8.held
     (Eh (a0,34))
     (jx (f78 a0 (⟨v1.name,v1.product,v1.version,v1.uses,v1.results,v1.partner,I,v1.aj⟩)) fun da=>
     jx (bj (xY a0 a1 a2 v1 v5 v8 da) (I,0)) fun d28=>
     cond d28.1
      (cond (decide (v8.left<v11))
       (Eh (a0,4))
       (jx (f252 v1.uses v8.name v11) fun gq=>
       cond gq.2
        (jx (f206 a0 v5 (⟨v8.name,v8.kind,v8.count,j9 .i64 (v8.left-v11),I⟩)) fun oG=>
        jx (f209 oG a1 (⟨v1.name,v1.product,v1.version,gq.1,v1.results,v1.partner,I,v1.aj⟩)) fun v37=>
        Eh (v37,0))
        (jx (f206 a0 v5 (⟨v8.name,v8.kind,v8.count,j9 .i64 (v8.left-v11),I⟩)) fun yJ=>
        jx (f209 yJ a1 (⟨v1.name,v1.product,v1.version,gq.1,v1.results,v1.partner,I,v1.aj⟩)) fun px=>
        Eh (px,0))))
      (Eh (a0,7))))))
theorem zci {a0:qc}{a1:Int}{a2:ql}{r}(h:f207 a0 a1 a2=Eh r):jz pr (X pr) 207 [aR a0,Iv a1,aE a2]=Eh (.az [aR r.1,Iv r.2],I):=by
 unfold f207 at h
 refine yt sU ?_
 repeat' first|(replace h:=jy h;obtain⟨d,g,h⟩:=h;with_reducible first|replace g:=Eu g|replace g:=Ol g|replace g:=zb6 g|replace g:=jt2 g|replace g:=Wd g|(replace g:=jsf a0 a1 a2 _ _ _ _ g;dsimp only[Jb,Jc,ki]at g h)|skip)|(replace h:=j6 h;rcases h with⟨g,h⟩|⟨g,h⟩)|fail
 all_goals (cases h<;>(simp only[go_sem,seval,sU,zn, *];exact⟨_,rfl⟩))
def f208 (a0:qc)(a1:Int)(a2:ql):Option (qc×Int):=
 jx (zq (a0.units.getD []) a1) fun v1=>
 jx (zq (a2.names.getD []) 1) fun v3=>
 jx (f27 a0 v3) fun v5=>
 cond (decide (v5<0))
  (Eh (a0,10))
  (jx (zq (a0.units.getD []) v5) fun v8=>
  cond (decide (v5=a1))
   (Eh (a0,9))
   (cond (decide (v1.product=v8.product))
    (cond (decide (v1.version=v8.version))
     (cond v1.ar
      (Eh (a0,21))
      (cond v8.ar
       (Eh (a0,21))
       (cond (decide (v1.partner=[]))
        (cond (decide (v8.partner=[]))
         (jx (f209 a0 a1 (⟨v1.name,v1.product,v1.version,v1.uses,v1.results,v8.name,I,v1.aj⟩)) fun dr=>
         jx (f209 dr v5 (⟨v8.name,v8.product,v8.version,v8.uses,v8.results,v1.name,I,v8.aj⟩)) fun lL=>
         Eh (lL,0))
         (Eh (a0,35)))
        (Eh (a0,35)))))
     (Eh (a0,30)))
    (Eh (a0,30))))
theorem zfs {a0:qc}{a1:Int}{a2:ql}{r}(h:f208 a0 a1 a2=Eh r):jz pr (X pr) 208 [aR a0,Iv a1,aE a2]=Eh (.az [aR r.1,Iv r.2],I):=by
 unfold f208 at h
 refine yt sV ?_
 repeat' first|(replace h:=jy h;obtain⟨d,g,h⟩:=h;with_reducible first|replace g:=N7 g|replace g:=Wd g|skip)|(replace h:=j6 h;rcases h with⟨g,h⟩|⟨g,h⟩)|fail
 all_goals (cases h<;>(simp only[go_sem,seval,sV,zn, *];exact⟨_,rfl⟩))
def xZ (a0:qc)(a1:ql)(v3:Int)(v6:qe)(dE:qt)(s0:Bool×Int):Option ((Bool×Int)⊕((Bool×Int))):=
 cond (decide (s0.2<((dE.aB.getD []).length:Int)))
  (cond s0.1
   (Eh (.inl (true,j9 .i64 (s0.2+1))))
   (jx (zq (dE.aB.getD []) s0.2) fun v31=>
   jx (zq (a1.names.getD []) 1) fun wy=>
   Eh (.inl (decide (v31.k=wy),j9 .i64 (s0.2+1)))))
  (Eh (.inr (s0.1,s0.2)))
def Je (a0:qc)(a1:ql)(v3:Int)(v6:qe)(dE:qt)(s0:Bool×Int):qh:=⟨[(2,.ah (aR a0),I),(3,.ah (aE a1),I),(4,.ptr 0 0,I),(6,Iv v3,I),(7,.ptr 1 0,I),(8,.ah (aD dE),I),(9,.bool s0.1,I),(10,Iv s0.2,I)],[kZ,.cells [(.str v6.name,I),(.str v6.product,I),(Iv v6.version,I),(sl 2 aV v6.uses,I),(sl 3 zz v6.results,I),(.str v6.partner,I),(.bool I,I),(Iv v6.aj,I)]]⟩
def Jf (a0:qc)(a1:ql)(v3:Int)(v6:qe)(dE:qt)(d:(Bool×Int)):qo×qh:=(.exit 1,⟨[(2,.ah (aR a0),I),(3,.ah (aE a1),I),(4,.ptr 0 0,I),(6,Iv v3,I),(7,.ptr 1 0,I),(8,.ah (aD dE),I),(9,.bool d.1,I),(10,Iv d.2,I),(64,.bool I,I)],[kZ,.cells [(.str v6.name,I),(.str v6.product,I),(Iv v6.version,I),(sl 2 aV v6.uses,I),(sl 3 zz v6.results,I),(.str v6.partner,I),(.bool I,I),(Iv v6.aj,I)]]⟩)
theorem jow (a0:qc)(a1:ql)(v3:Int)(v6:qe)(dE:qt)(s0:Bool×Int)(r)(h:xZ a0 a1 v3 v6 dE s0=Eh r):y5 pr Jg (Je a0 a1 v3 v6 dE) (Jf a0 a1 v3 v6 dE) s0 r:=by
 unfold xZ at h
 repeat' first|(replace h:=jy h;obtain⟨d,g,h⟩:=h)|(replace h:=j6 h;rcases h with⟨g,h⟩|⟨g,h⟩)|fail
 all_goals (cases h<;>(first|(refine z6 ?_;simp only[go_sem,seval,Jg,Je,zn,Jf, *]<;>rfl)|(refine yo ?_;simp only[go_sem,seval,Jg,Je,zn,Jf, *]<;>rfl)))
theorem jtn (a0:qc)(a1:ql)(v3:Int)(v6:qe)(dE:qt){s0:Bool×Int}{d}(h:bj (xZ a0 a1 v3 v6 dE) s0=Eh d):X pr (.loop Jg) (Je a0 a1 v3 v6 dE s0)=Eh (Jf a0 a1 v3 v6 dE d):=kl (jow a0 a1 v3 v6 dE) (fun d hh=>by cases hh) h
def f127 (a0:qc)(a1:ql):Option (qc×Int):=
 jx (zq (a1.names.getD []) 0) fun v1=>
 jx (f27 a0 v1) fun v3=>
 cond (decide (v3<0))
  (Eh (a0,10))
  (jx (zq (a0.units.getD []) v3) fun v6=>
  cond (decide (a1.kind=([117,115,101]:List UInt8)))
   (jx (f207 a0 v3 a1) fun v9=>
   Eh (v9.1,v9.2))
   (cond (decide (a1.kind=([112,97,105,114]:List UInt8)))
    (jx (f208 a0 v3 a1) fun v12=>
    Eh (v12.1,v12.2))
    (cond (decide (a1.kind=([109,101,97,115,117,114,101]:List UInt8)))
     (cond v6.ar
      (Eh (a0,21))
      (jx (f78 a0 (⟨v6.name,v6.product,v6.version,v6.uses,v6.results,v6.partner,I,v6.aj⟩)) fun dE=>
      jx (bj (xZ a0 a1 v3 v6 dE) (I,0)) fun d35=>
      cond d35.1
       (cond (decide (64≤((v6.results.getD []).length:Int)))
        (Eh (a0,5))
        (jx (bp (Eh []) (v6.results.getD [])) fun yJ=>
        jx (zq (a1.names.getD []) 1) fun px=>
        jx (zq (a1.values.getD []) 1) fun Ip=>
        jx (bp yJ [⟨px,v6.version,Ip⟩]) fun yD=>
        jx (f209 a0 v3 (⟨v6.name,v6.product,v6.version,v6.uses,yD,v6.partner,I,v6.aj⟩)) fun Wq=>
        Eh (Wq,0)))
       (Eh (a0,7))))
     (cond (decide (a1.kind=([117,112,100,97,116,101]:List UInt8)))
      (cond v6.ar
       (Eh (a0,21))
       (jx (f80 a0 (⟨v6.name,v6.product,v6.version,v6.uses,v6.results,v6.partner,I,v6.aj⟩)) fun v51=>
       cond (decide (v6.version=v51))
        (Eh (a0,32))
        (jx (f209 a0 v3 (⟨v6.name,v6.product,v51,v6.uses,v6.results,v6.partner,I,v6.aj⟩)) fun Od=>
        Eh (Od,0))))
      (cond (decide (a1.kind=([115,104,105,112]:List UInt8)))
       (jx (f31 a0 v6) fun Oe=>
       cond (decide (Oe=0))
        (jx (f209 a0 v3 (⟨v6.name,v6.product,v6.version,v6.uses,v6.results,v6.partner,true,v6.aj⟩)) fun v60=>
        Eh (v60,0))
        (Eh (a0,Oe)))
       (cond v6.ar
        (jx (f209 a0 v3 (⟨v6.name,v6.product,v6.version,v6.uses,v6.results,v6.partner,true,j9 .i64 (v6.aj+1)⟩)) fun Wr=>
        Eh (Wr,0))
        (Eh (a0,20))))))))
theorem j8p {a0:qc}{a1:ql}{r}(h:f127 a0 a1=Eh r):jz pr (X pr) 127 [aR a0,aE a1]=Eh (.az [aR r.1,Iv r.2],I):=by
 unfold f127 at h
 refine yt wJ ?_
 repeat' first|(replace h:=jy h;obtain⟨d,g,h⟩:=h;with_reducible first|replace g:=N7 g|replace g:=zci g|replace g:=zfs g|replace g:=Ol g|replace g:=Wd g|replace g:=W80 g|replace g:=W31 g|replace g:=DX g|(replace g:=jtn a0 a1 _ _ _ g;dsimp only[Je,Jf,ki]at g h)|skip)|(replace h:=j6 h;rcases h with⟨g,h⟩|⟨g,h⟩)|fail
 all_goals (cases h<;>(simp only[go_sem,seval,wJ,zn,lX, *];exact⟨_,rfl⟩))
def f69 (a0:qc)(a1:ql):Option (qc×Int):=
 jx (zq (a1.values.getD []) 0) fun v1=>
 cond (decide (v1<a0.day))
  (Eh (a0,20))
  (cond (decide (a1.kind=([108,111,116]:List UInt8)))
   (jx (f124 a0 a1) fun v5=>
   Eh (⟨v1,v5.1.aq,v5.1.ae,v5.1.units⟩,v5.2))
   (cond (decide (a1.kind=([112,114,111,100,117,99,116]:List UInt8)))
    (jx (f124 a0 a1) fun v8=>
    Eh (⟨v1,v8.1.aq,v8.1.ae,v8.1.units⟩,v8.2))
    (cond (decide (a1.kind=([98,117,105,108,100]:List UInt8)))
     (jx (f124 a0 a1) fun v11=>
     Eh (⟨v1,v11.1.aq,v11.1.ae,v11.1.units⟩,v11.2))
     (cond (decide (a1.kind=([110,101,101,100]:List UInt8)))
      (jx (f125 a0 a1) fun ei=>
      Eh (⟨v1,ei.1.aq,ei.1.ae,ei.1.units⟩,ei.2))
      (cond (decide (a1.kind=([116,101,115,116]:List UInt8)))
       (jx (f125 a0 a1) fun dr=>
       Eh (⟨v1,dr.1.aq,dr.1.ae,dr.1.units⟩,dr.2))
       (cond (decide (a1.kind=([105,115,115,117,101]:List UInt8)))
        (jx (f125 a0 a1) fun v20=>
        Eh (⟨v1,v20.1.aq,v20.1.ae,v20.1.units⟩,v20.2))
        (cond (decide (a1.kind=([104,111,108,100]:List UInt8)))
         (jx (f126 a0 a1) fun ej=>
         Eh (⟨v1,ej.1.aq,ej.1.ae,ej.1.units⟩,ej.2))
         (cond (decide (a1.kind=([102,114,101,101]:List UInt8)))
          (jx (f126 a0 a1) fun dM=>
          Eh (⟨v1,dM.1.aq,dM.1.ae,dM.1.units⟩,dM.2))
          (jx (f127 a0 a1) fun v28=>
          Eh (⟨v1,v28.1.aq,v28.1.ae,v28.1.units⟩,v28.2))))))))))
theorem W69 {a0:qc}{a1:ql}{r}(h:f69 a0 a1=Eh r):jz pr (X pr) 69 [aR a0,aE a1]=Eh (.az [aR r.1,Iv r.2],I):=by
 unfold f69 at h
 refine yt Om ?_
 repeat' first|(replace h:=jy h;obtain⟨d,g,h⟩:=h;with_reducible first|replace g:=zfm g|replace g:=zes g|replace g:=j9v g|replace g:=j8p g|skip)|(replace h:=j6 h;rcases h with⟨g,h⟩|⟨g,h⟩)|fail
 all_goals (cases h<;>(simp only[go_sem,seval,Om,zn, *];exact⟨_,rfl⟩))
end Go.Z
end
