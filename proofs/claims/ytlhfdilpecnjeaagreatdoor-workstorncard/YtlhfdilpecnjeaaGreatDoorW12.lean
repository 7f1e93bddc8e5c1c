/- Chapter 10. -/
import Derived.Test.YtlhfdilpecnjeaaGreatDoorV0
set_option linter.unusedVariables false
set_option linter.unusedSimpArgs false
set_option maxRecDepth 100000
set_option maxHeartbeats 4000000
noncomputable section
open Bool renaming false->En,cond_eq_ite->Hc,true->H4
open Option renaming some->Ha,none->H2,isNone_none->H8
open Nat renaming eq_of_beq_eq_true->Hb,beq->H3
namespace Go.Z
open Go Go.Abs Go.W
def f154 (O:aw)(J:GEv):Option (aw×Int):=
 qa (qm (J.names.getD []) 0) fun v1=>
 qa (f80 O v1) fun v3=>
 cond (decide (v3<0))
  (Ha (O,10))
  (qa (qm (O.az.getD []) v3) fun v6=>
  cond (decide (J.kind=([104,111,108,100]:aj)))
   (cond v6.held
    (Ha (O,34))
    (cond (decide (J.kind=([102,114,101,101]:aj)))
     (Ha (O,20))
     (qa (f220 O v3 (⟨v6.name,v6.kind,v6.count,v6.left,H4⟩)) fun v11=>
     Ha (v11,0))))
   (cond (decide (J.kind=([102,114,101,101]:aj)))
    (cond v6.held
     (qa (f220 O v3 (⟨v6.name,v6.kind,v6.count,v6.left,En⟩)) fun dL=>
     Ha (dL,0))
     (Ha (O,20)))
    (qa (f220 O v3 (⟨v6.name,v6.kind,v6.count,v6.left,En⟩)) fun fj=>
    Ha (fj,0))))
theorem zg2 {O J r}(h:f154 O J=Ha r):ae pr (X pr) 154 [aR O,aE J]=Ha (.aJ [aR r.1,Iv r.2],En):=by
 unfold f154 at h;refine zg E0 ?_
 repeat' first|(replace h:=qb h;obtain⟨d,g,h⟩:=h;with_reducible first|replace g:=Lk g|replace g:=jwt g|skip)|(replace h:=qc h;rcases h with⟨g,h⟩|⟨g,h⟩)
 all_goals (cases h<;>(simp only[go_sem,seval,E0,jq, *];exact⟨_,rfl⟩))
def f153 (O:aw)(J:GEv):Option (aw×Int):=
 qa (qm (J.names.getD []) 0) fun v1=>
 qa (f82 O v1) fun v3=>
 cond (decide (v3<0))
  (Ha (O,10))
  (qa (qm (O.ah.getD []) v3) fun v6=>
  cond (decide (J.kind=([110,101,101,100]:aj)))
   (qa (qm (J.values.getD []) 1) fun v9=>
   cond (decide (10000<v9))
    (Ha (O,3))
    (qa (qm (J.names.getD []) 1) fun v12=>
    qa (f217 v6.dn (⟨v12,v9⟩)) fun dj=>
    cond dj.2
     (cond (decide (16<((dj.1.getD []).length:Int)))
      (Ha (O,5))
      (qa (f219 O v3 (⟨v6.name,dj.1,v6.dt,v6.bm⟩)) fun eT=>
      Ha (eT,0)))
     (cond (decide (16<((dj.1.getD []).length:Int)))
      (Ha (O,5))
      (qa (f219 O v3 (⟨v6.name,dj.1,v6.dt,v6.bm⟩)) fun v21=>
      Ha (v21,0)))))
   (cond (decide (J.kind=([116,101,115,116]:aj)))
    (qa (qm (J.values.getD []) 2) fun v24=>
    qa (qm (J.values.getD []) 1) fun v26=>
    cond (decide (v24<v26))
     (Ha (O,11))
     (qa (qm (J.names.getD []) 1) fun eu=>
     qa (f218 v6.dt (⟨eu,v26,v24⟩)) fun v31=>
     cond v31.2
      (cond (decide (16<((v31.1.getD []).length:Int)))
       (Ha (O,5))
       (qa (f219 O v3 (⟨v6.name,v6.dn,v31.1,v6.bm⟩)) fun ou=>
       Ha (ou,0)))
      (cond (decide (16<((v31.1.getD []).length:Int)))
       (Ha (O,5))
       (qa (f219 O v3 (⟨v6.name,v6.dn,v31.1,v6.bm⟩)) fun tQ=>
       Ha (tQ,0)))))
    (cond (decide (((v6.dn.getD []).length:Int)=0))
     (Ha (O,12))
     (cond (decide (100<=((v6.bm.getD []).length:Int)))
      (Ha (O,5))
      (qa (bC (Ha []) (v6.bm.getD [])) fun v42=>
      qa (bC v42 [⟨v6.dn,v6.dt⟩]) fun iV=>
      qa (f219 O v3 (⟨v6.name,v6.dn,v6.dt,iV⟩)) fun v46=>
      Ha (v46,0))))))
theorem zgi {O J r}(h:f153 O J=Ha r):ae pr (X pr) 153 [aR O,aE J]=Ha (.aJ [aR r.1,Iv r.2],En):=by
 unfold f153 at h;refine zg E1 ?_
 repeat' first|(replace h:=qb h;obtain⟨d,g,h⟩:=h;with_reducible first|replace g:=QP g|replace g:=zfg g|replace g:=zg1 g|replace g:=zeh g|replace g:=jcn g|skip)|(replace h:=qc h;rcases h with⟨g,h⟩|⟨g,h⟩)
 all_goals (cases h<;>(simp only[go_sem,seval,E1,jq,nF, *];exact⟨_,rfl⟩))
def yW (O:aw)(J:Int)(a2:GEv)(v1:bw)(v5:Int)(v8:ji)(dL:cg)(V:Bool×Int):Option ((Bool×Int)⊕((Bool×Int))):=
 cond (decide (V.2<((dL.bd.getD []).length:Int)))
  (cond V.1
   (Ha (.inl (H4,qd .i64 (V.2+1))))
   (qa (qm (dL.bd.getD []) V.2) fun v26=>
   Ha (.inl (decide (v26.k=v8.kind),qd .i64 (V.2+1)))))
  (Ha (.inr (V.1,V.2)))
def Sw (O:aw)(J:Int)(a2:GEv)(v1:bw)(v5:Int)(v8:ji)(dL:cg)(V:Bool×Int):bn:=⟨[(1,Iv J,En),(3,.aq (aR O),En),(5,.aq (aE a2),En),(6,.ptr 0 0,En),(8,.ptr 1 0,En),(9,Iv v5,En),(10,.ptr 2 0,En),(11,.aq (aD dL),En),(12,.bool V.1,En),(13,Iv V.2,En)],[kZ,.cells [(.str v1.name,En),(.str v1.product,En),(Iv v1.version,En),(sl 2 bA v1.uses,En),(sl 3 jc v1.results,En),(.str v1.partner,En),(.bool En,En),(Iv v1.au,En)],.cells [(.str v8.name,En),(.str v8.kind,En),(Iv v8.count,En),(Iv v8.left,En),(.bool En,En)]]⟩
def Sx (O:aw)(J:Int)(a2:GEv)(v1:bw)(v5:Int)(v8:ji)(dL:cg)(d:(Bool×Int)):jb×bn:=(.exit 0,⟨[(1,Iv J,En),(3,.aq (aR O),En),(5,.aq (aE a2),En),(6,.ptr 0 0,En),(8,.ptr 1 0,En),(9,Iv v5,En),(10,.ptr 2 0,En),(11,.aq (aD dL),En),(12,.bool d.1,En),(13,Iv d.2,En),(52,.bool En,En)],[kZ,.cells [(.str v1.name,En),(.str v1.product,En),(Iv v1.version,En),(sl 2 bA v1.uses,En),(sl 3 jc v1.results,En),(.str v1.partner,En),(.bool En,En),(Iv v1.au,En)],.cells [(.str v8.name,En),(.str v8.kind,En),(Iv v8.count,En),(Iv v8.left,En),(.bool En,En)]]⟩)
theorem j3c (O:aw)(J:Int)(a2:GEv)(v1:bw)(v5:Int)(v8:ji)(dL:cg)(V:Bool×Int)(r)(h:yW O J a2 v1 v5 v8 dL V=Ha r):jy pr Sy (Sw O J a2 v1 v5 v8 dL) (Sx O J a2 v1 v5 v8 dL) V r:=by
 unfold yW at h
 repeat' first|(replace h:=qb h;obtain⟨d,g,h⟩:=h)|(replace h:=qc h;rcases h with⟨g,h⟩|⟨g,h⟩)
 all_goals (cases h<;>((first|refine qu ?_|refine jz ?_);simp only[go_sem,seval,Sy,Sw,jq,Sx, *]<;>rfl))
theorem jv6 (O:aw)(J:Int)(a2:GEv)(v1:bw)(v5:Int)(v8:ji)(dL:cg){V d}(h:bq (yW O J a2 v1 v5 v8 dL) V=Ha d):X pr (.loop Sy) (Sw O J a2 v1 v5 v8 dL V)=Ha (Sx O J a2 v1 v5 v8 dL d):=z8 (j3c O J a2 v1 v5 v8 dL) h
def f221 (O:aw)(J:Int)(a2:GEv):Option (aw×Int):=
 qa (qm (O.units.getD []) J) fun v1=>
 qa (qm (a2.names.getD []) 1) fun v3=>
 qa (f80 O v3) fun v5=>
 cond (decide (v5<0))
  (Ha (O,10))
  (qa (qm (O.az.getD []) v5) fun v8=>
  cond v1.ax
   (Ha (O,21))
   (qa (qm (a2.values.getD []) 1) fun v11=>
   cond (decide (v11=0))
    (Ha (O,3))
    (cond v8.held
     (Ha (O,34))
     (qa (f157 O (⟨v1.name,v1.product,v1.version,v1.uses,v1.results,v1.partner,En,v1.au⟩)) fun dL=>
     qa (bq (yW O J a2 v1 v5 v8 dL) (En,0)) fun d28=>
     cond d28.1
      (cond (decide (v8.left<v11))
       (Ha (O,4))
       (qa (f262 v1.uses v8.name v11) fun ig=>
       cond ig.2
        (qa (f220 O v5 (⟨v8.name,v8.kind,v8.count,qd .i64 (v8.left-v11),En⟩)) fun ou=>
        qa (f225 ou J (⟨v1.name,v1.product,v1.version,ig.1,v1.results,v1.partner,En,v1.au⟩)) fun v37=>
        Ha (v37,0))
        (qa (f220 O v5 (⟨v8.name,v8.kind,v8.count,qd .i64 (v8.left-v11),En⟩)) fun CC=>
        qa (f225 CC J (⟨v1.name,v1.product,v1.version,ig.1,v1.results,v1.partner,En,v1.au⟩)) fun DP=>
        Ha (DP,0))))
      (Ha (O,7))))))
theorem zkj {O J a2 r}(h:f221 O J a2=Ha r):ae pr (X pr) 221 [aR O,Iv J,aE a2]=Ha (.aJ [aR r.1,Iv r.2],En):=by
 unfold f221 at h;refine zg E2 ?_
 repeat' first|(replace h:=qb h;obtain⟨d,g,h⟩:=h;with_reducible first|replace g:=Lk g|replace g:=RH g|replace g:=zer g|replace g:=jwt g|replace g:=Z8 g|(replace g:=jv6 O J a2 _ _ _ _ g;dsimp only[Sw,Sx,zr]at g h)|skip)|(replace h:=qc h;rcases h with⟨g,h⟩|⟨g,h⟩)
 all_goals (cases h<;>(simp only[go_sem,seval,E2,jq, *];exact⟨_,rfl⟩))
def f222 (O:aw)(J:Int)(a2:GEv):Option (aw×Int):=
 qa (qm (O.units.getD []) J) fun v1=>
 qa (qm (a2.names.getD []) 1) fun v3=>
 qa (f83 O v3) fun v5=>
 cond (decide (v5<0))
  (Ha (O,10))
  (qa (qm (O.units.getD []) v5) fun v8=>
  cond (decide (v5=J))
   (Ha (O,9))
   (cond (decide (v1.product=v8.product))
    (cond (decide (v1.version=v8.version))
     (cond v1.ax
      (Ha (O,21))
      (cond v8.ax
       (Ha (O,21))
       (cond (decide (v1.partner=[]))
        (cond (decide (v8.partner=[]))
         (qa (f225 O J (⟨v1.name,v1.product,v1.version,v1.uses,v1.results,v8.name,En,v1.au⟩)) fun fj=>
         qa (f225 fj v5 (⟨v8.name,v8.product,v8.version,v8.uses,v8.results,v1.name,En,v8.au⟩)) fun ln=>
         Ha (ln,0))
         (Ha (O,35)))
        (Ha (O,35)))))
     (Ha (O,30)))
    (Ha (O,30))))
theorem ze8 {O J a2 r}(h:f222 O J a2=Ha r):ae pr (X pr) 222 [aR O,Iv J,aE a2]=Ha (.aJ [aR r.1,Iv r.2],En):=by
 unfold f222 at h;refine zg E3 ?_
 repeat' first|(replace h:=qb h;obtain⟨d,g,h⟩:=h;with_reducible first|replace g:=W83 g|replace g:=Z8 g|skip)|(replace h:=qc h;rcases h with⟨g,h⟩|⟨g,h⟩)
 all_goals (cases h<;>(simp only[go_sem,seval,E3,jq, *];exact⟨_,rfl⟩))
def yX (O:aw)(J:GEv)(v3:Int)(v6:bw)(eg:cg)(V:Bool×Int):Option ((Bool×Int)⊕((Bool×Int))):=
 cond (decide (V.2<((eg.aS.getD []).length:Int)))
  (cond V.1
   (Ha (.inl (H4,qd .i64 (V.2+1))))
   (qa (qm (eg.aS.getD []) V.2) fun v31=>
   qa (qm (J.names.getD []) 1) fun ox=>
   Ha (.inl (decide (v31.k=ox),qd .i64 (V.2+1)))))
  (Ha (.inr (V.1,V.2)))
def Sz (O:aw)(J:GEv)(v3:Int)(v6:bw)(eg:cg)(V:Bool×Int):bn:=⟨[(2,.aq (aR O),En),(3,.aq (aE J),En),(4,.ptr 0 0,En),(6,Iv v3,En),(7,.ptr 1 0,En),(8,.aq (aD eg),En),(9,.bool V.1,En),(10,Iv V.2,En)],[kZ,.cells [(.str v6.name,En),(.str v6.product,En),(Iv v6.version,En),(sl 2 bA v6.uses,En),(sl 3 jc v6.results,En),(.str v6.partner,En),(.bool En,En),(Iv v6.au,En)]]⟩
def SA (O:aw)(J:GEv)(v3:Int)(v6:bw)(eg:cg)(d:(Bool×Int)):jb×bn:=(.exit 1,⟨[(2,.aq (aR O),En),(3,.aq (aE J),En),(4,.ptr 0 0,En),(6,Iv v3,En),(7,.ptr 1 0,En),(8,.aq (aD eg),En),(9,.bool d.1,En),(10,Iv d.2,En),(64,.bool En,En)],[kZ,.cells [(.str v6.name,En),(.str v6.product,En),(Iv v6.version,En),(sl 2 bA v6.uses,En),(sl 3 jc v6.results,En),(.str v6.partner,En),(.bool En,En),(Iv v6.au,En)]]⟩)
theorem jwe (O:aw)(J:GEv)(v3:Int)(v6:bw)(eg:cg)(V:Bool×Int)(r)(h:yX O J v3 v6 eg V=Ha r):jy pr SC (Sz O J v3 v6 eg) (SA O J v3 v6 eg) V r:=by
 unfold yX at h
 repeat' first|(replace h:=qb h;obtain⟨d,g,h⟩:=h)|(replace h:=qc h;rcases h with⟨g,h⟩|⟨g,h⟩)
 all_goals (cases h<;>((first|refine qu ?_|refine jz ?_);simp only[go_sem,seval,SC,Sz,jq,SA, *]<;>rfl))
theorem jy1 (O:aw)(J:GEv)(v3:Int)(v6:bw)(eg:cg){V d}(h:bq (yX O J v3 v6 eg) V=Ha d):X pr (.loop SC) (Sz O J v3 v6 eg V)=Ha (SA O J v3 v6 eg d):=z8 (jwe O J v3 v6 eg) h
def f155 (O:aw)(J:GEv):Option (aw×Int):=
 qa (qm (J.names.getD []) 0) fun v1=>
 qa (f83 O v1) fun v3=>
 cond (decide (v3<0))
  (Ha (O,10))
  (qa (qm (O.units.getD []) v3) fun v6=>
  cond (decide (J.kind=([117,115,101]:aj)))
   (qa (f221 O v3 J) fun v9=>
   Ha (v9.1,v9.2))
   (cond (decide (J.kind=([112,97,105,114]:aj)))
    (qa (f222 O v3 J) fun v12=>
    Ha (v12.1,v12.2))
    (cond (decide (J.kind=([109,101,97,115,117,114,101]:aj)))
     (cond v6.ax
      (Ha (O,21))
      (qa (f157 O (⟨v6.name,v6.product,v6.version,v6.uses,v6.results,v6.partner,En,v6.au⟩)) fun eg=>
      qa (bq (yX O J v3 v6 eg) (En,0)) fun d35=>
      cond d35.1
       (cond (decide (64<=((v6.results.getD []).length:Int)))
        (Ha (O,5))
        (qa (bC (Ha []) (v6.results.getD [])) fun CC=>
        qa (qm (J.names.getD []) 1) fun DP=>
        qa (qm (J.values.getD []) 1) fun Ll=>
        qa (bC CC [⟨DP,v6.version,Ll⟩]) fun As=>
        qa (f225 O v3 (⟨v6.name,v6.product,v6.version,v6.uses,As,v6.partner,En,v6.au⟩)) fun v47=>
        Ha (v47,0)))
       (Ha (O,7))))
     (cond (decide (J.kind=([117,112,100,97,116,101]:aj)))
      (cond v6.ax
       (Ha (O,21))
       (qa (f223 O (⟨v6.name,v6.product,v6.version,v6.uses,v6.results,v6.partner,En,v6.au⟩)) fun v51=>
       cond (decide (v6.version=v51))
        (Ha (O,32))
        (qa (f225 O v3 (⟨v6.name,v6.product,v51,v6.uses,v6.results,v6.partner,En,v6.au⟩)) fun QS=>
        Ha (QS,0))))
      (cond (decide (J.kind=([115,104,105,112]:aj)))
       (qa (f224 O v6) fun QT=>
       cond (decide (QT=0))
        (qa (f225 O v3 (⟨v6.name,v6.product,v6.version,v6.uses,v6.results,v6.partner,H4,v6.au⟩)) fun v60=>
        Ha (v60,0))
        (Ha (O,QT)))
       (cond v6.ax
        (qa (f225 O v3 (⟨v6.name,v6.product,v6.version,v6.uses,v6.results,v6.partner,H4,qd .i64 (v6.au+1)⟩)) fun v63=>
        Ha (v63,0))
        (Ha (O,20))))))))
theorem zd7 {O J r}(h:f155 O J=Ha r):ae pr (X pr) 155 [aR O,aE J]=Ha (.aJ [aR r.1,Iv r.2],En):=by
 unfold f155 at h;refine zg E4 ?_
 repeat' first|(replace h:=qb h;obtain⟨d,g,h⟩:=h;with_reducible first|replace g:=W83 g|replace g:=zkj g|replace g:=ze8 g|replace g:=RH g|replace g:=Z8 g|replace g:=j21 g|replace g:=zji g|replace g:=F4 g|(replace g:=jy1 O J _ _ _ g;dsimp only[Sz,SA,zr]at g h)|skip)|(replace h:=qc h;rcases h with⟨g,h⟩|⟨g,h⟩)
 all_goals (cases h<;>(simp only[go_sem,seval,E4,jq,nF, *];exact⟨_,rfl⟩))
def f74 (O:aw)(J:GEv):Option (aw×Int):=
 qa (qm (J.values.getD []) 0) fun v1=>
 cond (decide (v1<O.day))
  (Ha (O,20))
  (cond (decide (J.kind=([108,111,116]:aj)))
   (qa (f152 O J) fun v5=>
   Ha (⟨v1,v5.1.az,v5.1.ah,v5.1.units⟩,v5.2))
   (cond (decide (J.kind=([112,114,111,100,117,99,116]:aj)))
    (qa (f152 O J) fun v8=>
    Ha (⟨v1,v8.1.az,v8.1.ah,v8.1.units⟩,v8.2))
    (cond (decide (J.kind=([98,117,105,108,100]:aj)))
     (qa (f152 O J) fun v11=>
     Ha (⟨v1,v11.1.az,v11.1.ah,v11.1.units⟩,v11.2))
     (cond (decide (J.kind=([110,101,101,100]:aj)))
      (qa (f153 O J) fun dj=>
      Ha (⟨v1,dj.1.az,dj.1.ah,dj.1.units⟩,dj.2))
      (cond (decide (J.kind=([116,101,115,116]:aj)))
       (qa (f153 O J) fun fj=>
       Ha (⟨v1,fj.1.az,fj.1.ah,fj.1.units⟩,fj.2))
       (cond (decide (J.kind=([105,115,115,117,101]:aj)))
        (qa (f153 O J) fun v20=>
        Ha (⟨v1,v20.1.az,v20.1.ah,v20.1.units⟩,v20.2))
        (cond (decide (J.kind=([104,111,108,100]:aj)))
         (qa (f154 O J) fun v23=>
         Ha (⟨v1,v23.1.az,v23.1.ah,v23.1.units⟩,v23.2))
         (cond (decide (J.kind=([102,114,101,101]:aj)))
          (qa (f154 O J) fun v26=>
          Ha (⟨v1,v26.1.az,v26.1.ah,v26.1.units⟩,v26.2))
          (qa (f155 O J) fun v28=>
          Ha (⟨v1,v28.1.az,v28.1.ah,v28.1.units⟩,v28.2))))))))))
theorem W74 {O J r}(h:f74 O J=Ha r):ae pr (X pr) 74 [aR O,aE J]=Ha (.aJ [aR r.1,Iv r.2],En):=by
 unfold f74 at h;refine zg c74 ?_
 repeat' first|(replace h:=qb h;obtain⟨d,g,h⟩:=h;with_reducible first|replace g:=zdj g|replace g:=zgi g|replace g:=zg2 g|replace g:=zd7 g|skip)|(replace h:=qc h;rcases h with⟨g,h⟩|⟨g,h⟩)
 all_goals (cases h<;>(simp only[go_sem,seval,c74,jq, *];exact⟨_,rfl⟩))
end Go.Z
namespace Go.Z
open Go Go.Abs Go.W
def f41 (O:GEv):Option Int:=
 qa (f124 O.number 1 1000) fun v1=>
 qa (f36 (!(mC O.kind)) 13) fun v3=>
 qa (f36 (!(decide (((O.names.getD []).length:Int)=((zb O.kind).length:Int))&&decide (((O.values.getD []).length:Int)=(mA O.kind)))) 2) fun v5=>
 qa (f35 (Ha [v1,v3,v5])) fun v7=>
 cond (decide (v7=0))
  (qa (f125 O.names) fun v10=>
  qa (f127 O.values) fun v12=>
  qa (f35 v10.1) fun dj=>
  qa (f35 v12.1) fun eg=>
  qa (f36 (!decide (O.text=[])) 1) fun eT=>
  qa (f35 (Ha [dj,eg,eT])) fun v20=>
  Ha v20)
  (Ha v7)
theorem KD {O r}(h:f41 O=Ha r):ae pr (X pr) 41 [aE O]=Ha (Iv r,En):=by
 unfold f41 at h;refine zg c41 ?_
 repeat' first|(replace h:=qb h;obtain⟨d,g,h⟩:=h; (with_reducible first|replace g:=QQ g|replace g:=dE g|replace g:=fY g|replace g:=zj9 g|replace g:=zfe g|skip);try dsimp only[zr,nD,List.map,jt,jf,je,qv,bE,z6,vev,bA,jc,y6,aE,aR,aU,aL,aP,aD]at g)|(replace h:=qc h;rcases h with⟨g,h⟩|⟨g,h⟩)
 all_goals (cases h<;>(simp only[go_sem,seval,c41,tn, *];exact⟨_,rfl⟩))
end Go.Z
namespace Go.Z
open Go Go.Abs Go.W
def qD (O:ak GEv)(V:(ak GEv)×(ak aw)×Int×Bool×Bool):Option (((ak GEv)×(ak aw)×Int×Bool×Bool)⊕((Int×Int×Int×(ak ji)×(ak bp)×(ak bw))⊕((ak GEv)×Bool×(ak aw)×Bool×Int))):=
 cond (decide (V.2.2.1<((O.getD []).length:Int)))
  (qa (qm (O.getD []) V.2.2.1) fun v75=>
  qa (f73 v75) fun v77=>
  cond (decide (v77=0))
   (cond (decide (v75.number=(qd .i64 (V.2.2.1+1))))
    (cond (decide (v75.kind=([117,110,100,111]:aj)))
     (cond (decide (((V.1.getD []).length:Int)=0))
      (Ha (.inr (.inl (qd .i64 (V.2.2.1+1),12,0,H2,H2,H2))))
      (qa (qm (V.1.getD []) (qd .i64 (((V.1.getD []).length:Int)-1))) fun v83=>
      cond (decide (v83.kind=([115,104,105,112]:aj)))
       (Ha (.inr (.inl (qd .i64 (V.2.2.1+1),19,0,H2,H2,H2))))
       (qa (jB V.1 H2 (Ha (qd .i64 (((V.1.getD []).length:Int)-1)))) fun v86=>
       qa (jB V.2.1 H2 (Ha ((V.1.getD []).length:Int))) fun v88=>
       Ha (.inl (v86,v88,qd .i64 (V.2.2.1+1),En,En)))))
     (qa (qm (V.2.1.getD []) ((V.1.getD []).length:Int)) fun QU=>
     qa (f74 QU v75) fun E6=>
     cond (decide (E6.2=0))
      (qa (bC (Ha []) (V.1.getD [])) fun v95=>
      qa (bC v95 [v75]) fun v97=>
      qa (bC (Ha []) (V.2.1.getD [])) fun QV=>
      qa (bC QV [E6.1]) fun v101=>
      Ha (.inl (v97,v101,qd .i64 (V.2.2.1+1),H4,H4)))
      (Ha (.inr (.inl (qd .i64 (V.2.2.1+1),E6.2,E6.1.day,E6.1.az,E6.1.ah,E6.1.units))))))
    (Ha (.inr (.inl (qd .i64 (V.2.2.1+1),11,0,H2,H2,H2)))))
   (Ha (.inr (.inl (qd .i64 (V.2.2.1+1),v77,0,H2,H2,H2)))))
  (Ha (.inr (.inr (V.1,V.2.2.2.1,V.2.1,V.2.2.2.2,V.2.2.1))))
def Au (O:ak GEv)(V:(ak GEv)×(ak aw)×Int×Bool×Bool):bn:=⟨[(0,sl 5 vev O,En),(3,.ptr 0 0,En),(6,sl 5 vev V.1,V.2.2.2.1),(7,sl 4 z6 V.2.1,V.2.2.2.2),(8,Iv V.2.2.1,En)],[kZ]⟩
def Ht (O:ak GEv):(Int×Int×Int×(ak ji)×(ak bp)×(ak bw))⊕((ak GEv)×Bool×(ak aw)×Bool×Int)->jb×bn
 | .inl d=>(.ret,⟨[(2,Nl,En),(3,.ptr 0 0,En),(4,Iv d.1,En),(5,Iv d.2.1,En)],[kZ,.cells [(Iv d.2.2.1,En),(sl 5 je d.2.2.2.1,En),(sl 4 qv d.2.2.2.2.1,En),(sl 8 bE d.2.2.2.2.2,En)]]⟩)| .inr d=>(.exit 0,⟨[(0,sl 5 vev O,En),(3,.ptr 0 0,En),(6,sl 5 vev d.1,d.2.1),(7,sl 4 z6 d.2.2.1,d.2.2.2.1),(8,Iv d.2.2.2.2,En),(21,.bool En,En)],[kZ]⟩)
theorem j9r (O:ak GEv)(V:(ak GEv)×(ak aw)×Int×Bool×Bool)(r)(h:qD O V=Ha r):jy pr Hu (Au O) (Ht O) V r:=by
 unfold qD at h
 repeat' first|(replace h:=qb h;obtain⟨d,g,h⟩:=h;with_reducible first|replace g:=W73 g|replace g:=W74 g|replace g:=j2j g|replace g:=j1z g|replace g:=ju8 g|skip)|(replace h:=qc h;rcases h with⟨g,h⟩|⟨g,h⟩)
 all_goals (cases h<;>(first|(refine qu ?_;simp only[go_sem,seval,Hu,Au,jq,Ht,nF, *]<;>rfl)|(refine jz ?_;simp only[go_sem,seval,Hu,Au,jq,Ht,nF, *]<;>rfl)|(refine jbw ?_ rfl (by first|simp only[go_sem,seval,Au]|rfl) (by first|simp only[go_sem,seval,Au]|rfl);simp only[go_sem,seval,Hu,Au,jq,Ht,nF, *];exact⟨_,rfl⟩)))
theorem j7n (O:ak GEv){V d}(h:bq (qD O) V=Ha d):X pr (.loop Hu) (Au O V)=Ha (Ht O d):=z8 (j9r O) h
def f28 (O:ak GEv):Option ((ak GEv)×aw×Int×Int):=
 cond (decide (1000<((O.getD []).length:Int)))
  (Ha (H2,⟨0,H2,H2,H2⟩,0,5))
  (qa (bq (qD O) (H2,Ha [⟨0,H2,H2,H2⟩],0,En,H4)) fun d103=>match d103 with
   | .inl d105=>
    Ha (H2,⟨0,H2,H2,H2⟩,d105.1,d105.2.1)
   | .inr d106=>
    qa (qm (d106.2.2.1.getD []) ((d106.1.getD []).length:Int)) fun v107=>
    Ha (d106.1,v107,0,0))
theorem W28 {O r}(h:f28 O=Ha r):ae pr (X pr) 28 [sl 5 vev O]=Ha (.aJ [sl 5 vev r.1,aR r.2.1,Iv r.2.2.1,Iv r.2.2.2],En):=by
 unfold f28 at h;refine zg c28 ?_
 repeat' first|(replace h:=qb h;obtain⟨d,g,h⟩:=h; (with_reducible first|(replace g:=j7n O g;rcases d with d|d<;>dsimp only[Au,Ht,zr,nD,List.map,jt,jf,je,qv,bE,z6,vev,bA,jc,y6]at g h)|skip);try dsimp only[zr,nD,List.map,jt,jf,je,qv,bE,z6,vev,bA,jc,y6,aE,aR,aU,aL,aP,aD]at g)|(replace h:=qc h;rcases h with⟨g,h⟩|⟨g,h⟩)
 all_goals (cases h<;>(simp only[go_sem,seval,c28,jq, *];exact⟨_,rfl⟩))
def f8 (O:ak GEv):Option (aw×Int×Int):=
 qa (f28 O) fun v1=>
 Ha (v1.2.1,v1.2.2.1,v1.2.2.2)
theorem W8 {O r}(h:f8 O=Ha r):ae pr (X pr) 8 [sl 5 vev O]=Ha (.aJ [aR r.1,Iv r.2.1,Iv r.2.2],En):=by
 unfold f8 at h;refine zg c8 ?_
 repeat' first|(replace h:=qb h;obtain⟨d,g,h⟩:=h;with_reducible first|replace g:=W28 g|skip)|(replace h:=qc h;rcases h with⟨g,h⟩|⟨g,h⟩)
 all_goals (cases h<;>(simp only[go_sem,seval,c8, *];exact⟨_,rfl⟩))
end Go.Z
namespace Go.Z
open Go Go.Abs Go.W
def jc7 (O:bD)(e0:List (aj×Int)):Option Bool:=
 Ha (decide ((nJ e0 O.k)<O.n))
theorem j8y {O e0 r}(h:jc7 O e0=Ha r):ai pr (X pr) 266 [aN O,.aq (.map 0)] [.map (eS e0)]=Ha (.bool r,En,[.map (eS e0)]):=by
 unfold jc7 at h;have Q:decide ((nJ e0 O.k)<O.n)=r:=Ha.inj h;subst Q;rw[qg (show pr.br 266=Ha E7 from rfl) (by simp)];simp only[go_sem,seval,E7,jq7]<;>rfl
def SD (O:ak bD)(e0:List (aj×Int))(V:Int):Option (Int⊕(Int⊕Int)):=
 cond (decide (V<((O.getD []).length:Int)))
  (qa (qm (O.getD []) V) fun dj=>
  qa (jc7 dj e0) fun eg=>
  cond eg
   (Ha (.inr (.inl V)))
   (Ha (.inl (qd .i64 (V+1)))))
  (Ha (.inr (.inr V)))
def SE (O:ak bD)(e0:List (aj×Int))(V:Int):bn:=⟨[(0,sl 2 bA O,En),(1,.fn (.func 266) [] [.aq (.map 0)],En),(7,Lv O,En),(8,Iv V,En)],[.map (eS e0)]⟩
def SF (O:ak bD)(e0:List (aj×Int)):Int⊕Int->jb×bn
 | .inl d=>(.ret,⟨[(4,Iv d,En)],[.map (eS e0)]⟩)| .inr d=>(.exit 0,⟨[(0,sl 2 bA O,En),(1,.fn (.func 266) [] [.aq (.map 0)],En),(7,Lv O,En),(8,Iv d,En),(9,.bool En,En)],[.map (eS e0)]⟩)
theorem jsx (O:ak bD)(e0:List (aj×Int))(V:Int)(r)(h:SD O e0 V=Ha r):jy pr qY (SE O e0) (SF O e0) V r:=by
 unfold SD at h
 repeat' first|(replace h:=qb h;obtain⟨d,g,h⟩:=h;with_reducible first|replace g:=j8y g|skip)|(replace h:=qc h;rcases h with⟨g,h⟩|⟨g,h⟩)
 all_goals (cases h<;>((first|refine qu ?_|refine jz ?_);simp only[go_sem,seval,qY,SE,jq,SF, *]<;>rfl))
theorem jr0 (O:ak bD)(e0:List (aj×Int)){V d}(h:bq (SD O e0) V=Ha d):X pr (.loop qY) (SE O e0 V)=Ha (SF O e0 d):=z8 (jsx O e0) h
def JO (O:ak bD)(e0:List (aj×Int)):Option Int:=
 qa (bq (SD O e0) 0) fun d19=>match d19 with
  | .inl d21=>
   Ha d21
  | .inr d22=>
   Ha (-1)
theorem j43 {O e0 r}(h:JO O e0=Ha r):ai pr (X pr) 228 [sl 2 bA O,.fn (.func 266) [] [.aq (.map 0)]] [.map (eS e0)]=Ha (Iv r,En,[.map (eS e0)]):=by
 unfold JO at h;rw[qg (show pr.br 228=Ha l0 from rfl) (by simp)]
 repeat' first|(replace h:=qb h;obtain⟨d,g,h⟩:=h;with_reducible first|(replace g:=jr0 O e0 g;rcases d with d|d<;>dsimp only[SE,SF,zr]at g h)|skip)|(replace h:=qc h;rcases h with⟨g,h⟩|⟨g,h⟩)
 all_goals (cases h<;>(simp only[go_sem,seval,l0, *]<;>rfl))
def JN (O:ak bD)(e0:List (aj×Int)):Option Bool:=
 qa (JO O e0) fun v1=>
 Ha (decide (0<=v1))
theorem j9c {O e0 r}(h:JN O e0=Ha r):ai pr (X pr) 172 [sl 2 bA O,.fn (.func 266) [] [.aq (.map 0)]] [.map (eS e0)]=Ha (.bool r,En,[.map (eS e0)]):=by
 unfold JN at h;obtain⟨v1,I,h⟩:=qb h;have gE:ai pr (X pr) 228 [sl 2 bA O,.fn (.func 266) [] [.aq (.map 0)]] [.map (eS e0)]=Ha (Iv v1,En,[.map (eS e0)]):=j43 I;have Q:decide (0<=v1)=r:=Ha.inj h;subst Q;rw[qg (show pr.br 172=Ha oE from rfl) (by simp)];simp only[go_sem,seval,oE,gE]<;>rfl
def f102 (O:ji):Option Bool:=
 Ha O.held
theorem zfb (hp:qf){O r}(h:f102 O=Ha r):ai pr (X pr) 102 [aL O] hp=Ha (.bool r,En,hp):=by
 unfold f102 at h;have Q:O.held=r:=Ha.inj h;subst Q;rw[qg (show pr.br 102=Ha E8 from rfl) (by simp)];simp only[go_sem,seval,E8]<;>rfl
def Gd (O:ak ji)(V:(ak ji)×Int×Bool):Option (((ak ji)×Int×Bool)⊕(((ak ji)×Bool×Int))):=
 cond (decide (V.2.1<((O.getD []).length:Int)))
  (qa (qm (O.getD []) V.2.1) fun v20=>
  qa (f102 v20) fun v22=>
  cond v22
   (cond V.2.2
    (qa (bC V.1 [v20]) fun v26=>
    Ha (.inl (v26,qd .i64 (V.2.1+1),H4)))
    (cond V.1.isNone
     (qa (bC V.1 [v20]) fun eu=>
     Ha (.inl (eu,qd .i64 (V.2.1+1),H4)))
     (H2)))
   (Ha (.inl (V.1,qd .i64 (V.2.1+1),V.2.2))))
  (Ha (.inr (V.1,V.2.2,V.2.1)))
def SG (O:ak ji)(V:(ak ji)×Int×Bool):bn:=⟨[(1,.fn (.func 102) [] [],En),(5,sl 5 je V.1,V.2.2),(8,sl 5 je O,En),(9,Lv O,En),(10,Iv V.2.1,En)],[]⟩
def SH (O:ak ji)(d:((ak ji)×Bool×Int)):jb×bn:=(.exit 0,⟨[(1,.fn (.func 102) [] [],En),(5,sl 5 je d.1,d.2.1),(8,sl 5 je O,En),(9,Lv O,En),(10,Iv d.2.2,En),(11,.bool En,En)],[]⟩)
theorem j1g (O:ak ji)(V:(ak ji)×Int×Bool)(r)(h:Gd O V=Ha r):jy pr SI (SG O) (SH O) V r:=by
 unfold Gd at h
 repeat' first|(replace h:=qb h;obtain⟨d,g,h⟩:=h;with_reducible first|replace g:=zfb [] g|replace g:=VL g|skip)|(replace h:=qc h;rcases h with⟨g,h⟩|⟨g,h⟩)
 all_goals (cases h<;>((first|refine qu ?_|refine jz ?_);simp only[go_sem,seval,SI,SG,jq,SH, *]<;>rfl))
theorem j1t (O:ak ji){V d}(h:bq (Gd O) V=Ha d):X pr (.loop SI) (SG O V)=Ha (SH O d):=z8 (j1g O) h
def f101 (O:ak ji):Option ((ak ji)×Bool):=
 qa (bq (Gd O) (H2,0,En)) fun d31=>
 Ha (d31.1,d31.2.1)
theorem jw5 {O r}(h:f101 O=Ha r):ae pr (X pr) 101 [sl 5 je O,.fn (.func 102) [] []]=Ha (sl 5 je r.1,r.2):=by
 unfold f101 at h;refine yq E9 ?_
 repeat' first|(replace h:=qb h;obtain⟨d,g,h⟩:=h;with_reducible first|(replace g:=j1t O g;dsimp only[SG,SH,zr]at g h)|skip)|(replace h:=qc h;rcases h with⟨g,h⟩|⟨g,h⟩)
 all_goals (cases h<;>(simp only[go_sem,seval,E9, *];exact⟨_,rfl⟩))
end Go.Z
namespace Go.Z
open Go Go.Abs Go.W
def ni:aV->aV
 | .seq a _=>a|x=>x
def iG:aV->aV
 | .seq _ b=>b|x=>x
def Fc:aV->aV
 | .block _ b=>b|x=>x
def SJ:aV->aV
 | .rangeFunc _ _ a _=>a|x=>x
def Ln:aV->aV
 | .rangeFunc _ _ _ b=>b|x=>x
theorem qQ {n v h t}(hn:h.length=n)(hv:Abs.below n v=H4)(hb:qr n h=H4):qy n v (h++t)=h:=by
 have ht:(h++t).take n=h:=by rw[<-hn,List.take_left'];rfl
 unfold qy;rw[ht,hv,hb]
 cases hc:Nat.ble (h++t).length n with
 |true=>
  have:=Nat.le_of_ble_eq_true hc;rw[List.length_append,hn]at this;have:t=[]:=List.eq_nil_of_length_eq_zero (by omega);subst this;simp
 |false=>rfl
theorem z9 {n v h}(hn:h.length=n):qy n v h=h:=by
 unfold qy;rw[Nat.ble_eq_true_of_le (by omega)];rfl
section
variable {σ:Type}(r:aw)(u:bw)(H:σ->qf)(step:σ->ji->Int->Option σ)
def pZ (x:Int×σ):Option ((Int×σ)⊕(Int×σ)):=
 cond (decide (x.1<((u.uses.getD []).length:Int)))
  (qa (qm (u.uses.getD []) x.1) fun s=>qa (f58 r s.k) fun v=>qa (qm (r.az.getD []) v) fun l=>qa (step x.2 l s.n) fun y=>Ha (.inl (qd .i64 (x.1+1),y)))
  (Ha (.inr x))
def Hv (x:Int×σ):bn:=⟨[(0,.fn (.yield 1) [] [],En),(2,.aq (aR r),En),(7,sl 2 bA u.uses,En),(8,Lv u.uses,En),(9,Iv x.1,En)],H x.2⟩
def SK (x:Int×σ):jb×bn:=(.exit 0,⟨[(0,.fn (.yield 1) [] [],En),(2,.aq (aR r),En),(7,sl 2 bA u.uses,En),(8,Lv u.uses,En),(9,Iv x.1,En),(10,.bool En,En)],H x.2⟩)
theorem zc3 (hy:∀x l n y,step x l n=Ha y->lz (X pr) 1 [aL l,Iv n] (H x)=Ha (.bool H4,H y))(hl:∀x,(H x).length=2)(x:Int×σ)(q)(h:pZ r u step x=Ha q):jy pr Lp (Hv r u H) (SK r u H) x q:=by
 unfold pZ at h;rcases qc h with⟨Y,h⟩|⟨Y,h⟩
 .obtain⟨s,I,h⟩:=qb h;obtain⟨v,h3,h⟩:=qb h;obtain⟨l,h4,h⟩:=qb h;obtain⟨y,h5,h⟩:=qb h;cases h;have g:=hy _ _ _ _ h5;have w:=CV h3;exact kp (bP:=Hv r u H (qd .i64 (x.1+1),y)) (by simp only[go_sem,seval,Lp,Hv,Y,jm I,w,jm h4,g]<;>rfl) (jQ (by show(H y).length<=(H x.2).length;rw[hl,hl];exact Nat.le_refl _))
 .cases h;exact qu (by simp only[go_sem,seval,Lp,Hv,Y,SK]<;>rfl)
theorem jy0 {r:aw}{u:bw}{H:σ->qf}{step:σ->ji->Int->Option σ}(hy:∀x l n y,step x l n=Ha y->lz (X pr) 1 [aL l,Iv n] (H x)=Ha (.bool H4,H y))(hl:∀x,(H x).length=2){x0 d}(h:bq (pZ r u step) (0,x0)=Ha d):ai pr (X pr) 265 [.fn (.yield 1) [] [],.aq (aU u),.aq (aR r)] (H x0)=Ha (.aJ [],En,H d.2):=by
 have Y:X pr (.loop Lp) (Hv r u H (0,x0))=Ha (SK r u H d):=lT (zc3 r u H step hy hl) (fun d=>by intro hh;cases hh) h;rw[qg (show pr.br 265=Ha Fe from rfl) (by simp)];simp only[Hv,SK]at Y;simp only[go_sem,seval,Fe,Y]<;>rfl
end
def xD:aV:=Fc (iG (ni (iG (iG kJ.body))))
def uc:aV:=SJ xD
def sd:aV:=Ln xD
theorem jvf:xD=.rangeFunc (.tmp 9) [10,11] uc sd:=rfl
def nj (r:aw)(u:bw):Env:=[(2,.aq (aR r),En),(3,.aq (aU u),En),(5,.ptr 0 0,En),(9,.fn (.func 265) [] [.aq (aU u),.aq (aR r)],En)]
def Ff (o:ak ji):qf:=[.cells [(sl 5 je o,o.isSome)]]
def kK (r:aw)(u:bw)(pd:Option jb)(o:ak ji):qf:=[.cells [(sl 5 je o,o.isSome)],.loop ⟨nj r u,[10,11],uc,sd,pd⟩]
def jl6 (r:aw)(u:bw)(l:ji)(n:Int):Env:=(([10,11][1]),Iv n,En)::(([10,11][0]),aL l,En)::nj r u
def SL (r:aw)(u:bw)(l:ji)(n:Int):Env:=[(2,.aq (aR r),En),(3,.aq (aU u),En),(5,.ptr 0 0,En),(6,.aq (aL l),En)]
theorem zd8 {r u l n}:vV (fF (nj r u)) [10,11] [aL l,Iv n]=Ha (jl6 r u l n):=rfl
theorem jna {r u l n H}:X pr uc ⟨jl6 r u l n,H⟩=Ha (.normal,⟨SL r u l n,H⟩):=by
 simp only[go_sem,seval,uc,SJ,xD,Fc,ni,iG,kJ,jl6,nj,List.getElem_cons_zero,List.getElem_cons_succ]<;>rfl
def yN (o:ak ji)(l:ji)(_:Int):Option (ak ji):=bC o [l]
theorem jkk {r u l n pd o o'}(ho:yN o l n=Ha o'):∃e t,X pr sd ⟨SL r u l n,kK r u pd o⟩=Ha (.normal,⟨e,kK r u pd o'++t⟩):=by
 unfold yN at ho
 have G:o'.isSome=H4:=by
  cases o' with
  |some _=>rfl|none=>cases o<;>simp[bC,yP]at ho
 cases o with
 |none=>
  have ap:=fun(b:Nat) (h:qf) (bb:Bool)=>q0v (b:=b) (h:=h) (bb:=bb) ho rfl;simp only[go_sem,seval,sd,Ln,xD,Fc,ni,iG,kJ,SL,kK,ap,Option.isSome_none,G];exact⟨_,_,rfl⟩
 |some o=>
  have ap:=fun(b t:Nat) (h:qf) (bb:Bool)=>qyw (b:=b) (t:=t) (h:=h) (bb:=bb) ho;simp only[go_sem,seval,sd,Ln,xD,Fc,ni,iG,kJ,SL,kK,ap,Option.isSome_some,G];exact⟨_,_,rfl⟩
theorem ji5 {r u pd o}:qr 2 (kK r u pd o)=H4:=by
 simp only[go_sem,seval,kK,qr,zn,zw,mF,nj]<;>rfl
theorem y75 {r u l n o o'}(ho:yN o l n=Ha o'):lz (X pr) 1 [aL l,Iv n] (kK r u H2 o)=Ha (.bool H4,kK r u H2 o'):=by
 have g:∀o pd t,zm (kK r u pd o++t) 1=Ha (.loop ⟨nj r u,[10,11],uc,sd,pd⟩):=fun _ _ _=>rfl;have g0:∀o pd,zm (kK r u pd o) 1=Ha (.loop ⟨nj r u,[10,11],uc,sd,pd⟩):=fun _ _=>rfl;have st:∀o pd ud t,(kK r u pd o++t).set 1 (.loop ⟨nj r u,[10,11],uc,sd,ud⟩)=kK r u ud o++t:=fun _ _ _ _=>rfl;have st0:∀o pd ud,(kK r u pd o).set 1 (.loop ⟨nj r u,[10,11],uc,sd,ud⟩)=kK r u ud o:=fun _ _ _=>rfl;have hl:∀o pd,(kK r u pd o).length=2:=fun _ _=>rfl;have ha:∀o pd v t,Abs.below 2 v=H4->qy 2 v (kK r u pd o++t)=kK r u pd o:=fun _ _ _ _ hv=>qQ rfl hv ji5;obtain⟨e,t,M⟩:=jkk (r:=r) (u:=u) (n:=n) (pd:=Ha .normal) ho;unfold lz;simp only[g0,zd8,jna,H8,cond_true,st0,hl,M,g,st];rw[ha _ _ _ _ rfl]
theorem jtg {r:aw}{u:bw}{o:ak ji}{d}(h:bq (pZ r u yN) (0,o)=Ha d):X pr xD ⟨nj r u,Ff o⟩=Ha (.normal,⟨nj r u,Ff d.2⟩):=by
 have Y:=jy0 (H:=kK r u H2) (fun x l n y G=>y75 G) (fun _=>rfl) h
 have hb:∀o,qr 1 (Ff o)=H4:=by
  intro o;simp only[go_sem,seval,Ff,qr,zn,zw]<;>rfl
 rw[jvf,N0];unfold mb;have hn:(zx uc&&zx sd)=H4:=rfl;have he:qh (nj r u) (.tmp 9)=Ha (.fn (.func 265) [] [.aq (aU u),.aq (aR r)]):=rfl;have hl:∀o,(Ff o).length=1:=fun _=>rfl;have lh:∀o,Ff o++[.loop ⟨nj r u,[10,11],uc,sd,H2⟩]=kK r u H2 o:=fun _=>rfl;have hg:∀o,zm (kK r u H2 o) 1=Ha (.loop ⟨nj r u,[10,11],uc,sd,H2⟩):=fun _=>rfl;have ht:∀o,(kK r u H2 o).take 1=Ff o:=fun _=>rfl;simp only[hn,cond_true,he,hl,List.nil_append,List.cons_append,lh,Y,hg,ht,hb]
def Av:aV:=Fc (iG (ni (iG (iG l5.body))))
def uf:aV:=SJ Av
def ug:aV:=Ln Av
theorem jqf:Av=.rangeFunc (.tmp 11) [12,13] uf ug:=rfl
def np (r:aw)(u:bw):Env:=[(2,.aq (aR r),En),(3,.aq (aU u),En),(5,.aq (.map 0),En),(11,.fn (.func 265) [] [.aq (aU u),.aq (aR r)],En)]
def Fg (o:List (aj×Int)):qf:=[.map (eS o)]
def lx (r:aw)(u:bw)(pd:Option jb)(o:List (aj×Int)):qf:=[.map (eS o),.loop ⟨np r u,[12,13],uf,ug,pd⟩]
def jd7 (r:aw)(u:bw)(l:ji)(n:Int):Env:=(([12,13][1]),Iv n,En)::(([12,13][0]),aL l,En)::np r u
def jfe (r:aw)(u:bw)(l:ji)(n:Int):Env:=[(2,.aq (aR r),En),(3,.aq (aU u),En),(5,.aq (.map 0),En),(6,.aq (aL l),En),(7,Iv n,En)]
theorem j48 {r u l n}:vV (fF (np r u)) [12,13] [aL l,Iv n]=Ha (jd7 r u l n):=rfl
theorem jig {r u l n H}:X pr uf ⟨jd7 r u l n,H⟩=Ha (.normal,⟨jfe r u l n,H⟩):=by
 simp only[go_sem,seval,uf,SJ,Av,Fc,ni,iG,l5,jd7,np,List.getElem_cons_zero,List.getElem_cons_succ]<;>rfl
def wT (o:List (aj×Int))(l:ji)(n:Int):Option (List (aj×Int)):=Ox o l.kind (qd .i64 (nJ o l.kind+n))
theorem jg1 {r u l n pd o o'}(ho:wT o l n=Ha o'):∃e t,X pr ug ⟨jfe r u l n,lx r u pd o⟩=Ha (.normal,⟨e,lx r u pd o'++t⟩):=by
 unfold wT at ho;simp only[go_sem,seval,ug,Ln,Av,Fc,ni,iG,l5,jfe,lx,jq7,j2g ho];exact⟨_,_,rfl⟩
theorem jgr {r u pd o}:qr 2 (lx r u pd o)=H4:=by
 simp only[go_sem,seval,lx,qr,zn,zw,mF,np]<;>rfl
theorem zev {r u l n o o'}(ho:wT o l n=Ha o'):lz (X pr) 1 [aL l,Iv n] (lx r u H2 o)=Ha (.bool H4,lx r u H2 o'):=by
 have g:∀o pd t,zm (lx r u pd o++t) 1=Ha (.loop ⟨np r u,[12,13],uf,ug,pd⟩):=fun _ _ _=>rfl;have g0:∀o pd,zm (lx r u pd o) 1=Ha (.loop ⟨np r u,[12,13],uf,ug,pd⟩):=fun _ _=>rfl;have st:∀o pd ud t,(lx r u pd o++t).set 1 (.loop ⟨np r u,[12,13],uf,ug,ud⟩)=lx r u ud o++t:=fun _ _ _ _=>rfl;have st0:∀o pd ud,(lx r u pd o).set 1 (.loop ⟨np r u,[12,13],uf,ug,ud⟩)=lx r u ud o:=fun _ _ _=>rfl;have hl:∀o pd,(lx r u pd o).length=2:=fun _ _=>rfl;have ha:∀o pd v t,Abs.below 2 v=H4->qy 2 v (lx r u pd o++t)=lx r u pd o:=fun _ _ _ _ hv=>qQ rfl hv jgr;obtain⟨e,t,M⟩:=jg1 (r:=r) (u:=u) (n:=n) (pd:=Ha .normal) ho;unfold lz;simp only[g0,j48,jig,H8,cond_true,st0,hl,M,g,st];rw[ha _ _ _ _ rfl]
theorem jm9 {r:aw}{u:bw}{o:List (aj×Int)}{d}(h:bq (pZ r u wT) (0,o)=Ha d):X pr Av ⟨np r u,Fg o⟩=Ha (.normal,⟨np r u,Fg d.2⟩):=by
 have Y:=jy0 (H:=lx r u H2) (fun x l n y G=>zev G) (fun _=>rfl) h
 have hb:∀o,qr 1 (Fg o)=H4:=by
  intro o;simp only[go_sem,seval,Fg,qr,zn,zw]<;>rfl
 rw[jqf,N0];unfold mb;have hn:(zx uf&&zx ug)=H4:=rfl;have he:qh (np r u) (.tmp 11)=Ha (.fn (.func 265) [] [.aq (aU u),.aq (aR r)]):=rfl;have hl:∀o,(Fg o).length=1:=fun _=>rfl;have lh:∀o,Fg o++[.loop ⟨np r u,[12,13],uf,ug,H2⟩]=lx r u H2 o:=fun _=>rfl;have hg:∀o,zm (lx r u H2 o) 1=Ha (.loop ⟨np r u,[12,13],uf,ug,H2⟩):=fun _=>rfl;have ht:∀o,(lx r u H2 o).take 1=Fg o:=fun _=>rfl;simp only[hn,cond_true,he,hl,List.nil_append,List.cons_append,lh,Y,hg,ht,hb]
end Go.Z
namespace Go.Z
open Go Go.Abs Go.W
theorem j2u {hp r u}:ai pr (X pr) 245 [aR r,aU u] hp=Ha (.fn (.func 265) [] [.aq (aU u),.aq (aR r)],En,hp):=by
 rw[qg (show pr.br 245=Ha Fh from rfl) (by simp)];simp only[go_sem,seval,Fh]<;>rfl
def f246 (r:aw)(u:bw):Option Bool:=
 qa (bq (pZ r u wT) (0,[])) fun d=>qa (f161 r u) fun doc=>qa (JN doc.bd d.2) fun b=>Ha (!b)
def jhz:aV:=ni l5.body
def ji9:aV:=ni (iG l5.body)
def jjy:aV:=ni (ni (iG (iG l5.body)))
def jhq:aV:=iG (iG (iG l5.body))
theorem zib {r u q}(h:f246 r u=Ha q):ae pr (X pr) 246 [aR r,aU u]=Ha (.bool q,En):=by
 unfold f246 at h;obtain⟨d,Y,h⟩:=qb h;obtain⟨doc,I,h⟩:=qb h;obtain⟨b,h3,h⟩:=qb h;cases h;have M:X pr Av ⟨np r u,[.map []]⟩=Ha (.normal,⟨np r u,[.map (eS d.2)]⟩):=jm9 Y;have w1:=j2u (hp:=[.map []]) (r:=r) (u:=u);have ha:qy 1 (.fn (.func 265) [] [.aq (aU u),.aq (aR r)]) ([.map []]:qf)=[.map []]:=z9 rfl;have w2:ae pr (X pr) 161 [aR r,aU u]=Ha (aD doc,En):=QR I;have w3:=j9c h3;have hb:qy 1 (.bool b) ([.map (eS d.2)]:qf)=[.map (eS d.2)]:=z9 rfl
 have this:∃hh,ai pr (X pr) 246 [aR r,aU u] []=Ha (.bool (!b),En,hh):=by
  rw[qg (show pr.br 246=Ha ⟨27,.seq jhz (.seq ji9 (.seq (.seq jjy (.block 0 Av)) jhq)),[.tmp 4]⟩from rfl) (by simp)];simp only[np]at M;simp only[go_sem,seval,jhz,ji9,jjy,jhq,ni,iG,l5,w1,ha,w2,w3,hb,M];exact⟨_,rfl⟩
 obtain⟨hh,this⟩:=this;exact jr rfl this (by first|rfl|simp only[go_sem,seval]) (by first|rfl|simp only[go_sem,seval])
def f204 (r:aw)(u:bw):Option Int:=
 qa (bq (pZ r u yN) (0,H2)) fun d=>qa (f36 u.ax 21) fun e1=>qa (f198 r u) fun lt=>qa (f36 (!decide (u.version=lt)) 32) fun e2=>qa (f246 r u) fun c=>qa (f36 (!c) 20) fun e3=>
 qa (f91 r u) fun m=>qa (f36 (decide (0<((m.1.getD []).length:Int))) 31) fun e4=>qa (f101 d.2) fun hd=>qa (f36 (decide (0<((hd.1.getD []).length:Int))) 34) fun e5=>f35 (Ha [e1,e2,e3,e4,e5])
def jq5:aV:=ni kJ.body
def jri:aV:=ni (iG kJ.body)
def jq6:aV:=ni (ni (iG (iG kJ.body)))
def jqz:aV:=iG (iG (iG kJ.body))
theorem zic {r u q}(h:f204 r u=Ha q):ae pr (X pr) 204 [aR r,aU u]=Ha (Iv q,En):=by
 unfold f204 at h;obtain⟨d,Y,h⟩:=qb h;obtain⟨e1,g1,h⟩:=qb h;obtain⟨lt,I,h⟩:=qb h;obtain⟨e2,g2,h⟩:=qb h;obtain⟨c,h3,h⟩:=qb h;obtain⟨e3,g3,h⟩:=qb h;obtain⟨m,h4,h⟩:=qb h;obtain⟨e4,g4,h⟩:=qb h;obtain⟨hd,h5,h⟩:=qb h;obtain⟨e5,g5,h⟩:=qb h;have M:X pr xD ⟨nj r u,[.cells [(Nl,En)]]⟩=Ha (.normal,⟨nj r u,[.cells [(sl 5 je d.2,d.2.isSome)]]⟩):=jtg Y;have w1:=j2u (hp:=[.cells [(Nl,En)]]) (r:=r) (u:=u);have ha:qy 1 (.fn (.func 265) [] [.aq (aU u),.aq (aR r)]) ([.cells [(Nl,En)]]:qf)=[.cells [(Nl,En)]]:=z9 rfl;have k1:=dE g1;have w2:ae pr (X pr) 198 [aR r,aU u]=Ha (Iv lt,En):=jzx I;have k2:=dE g2;have w3:=zib h3;have k3:=dE g3;have w4:ae pr (X pr) 91 [aR r,aU u]=Ha (sl 1 jf m.1,m.2):=W91 h4;have k4:=dE g4;have w5:=jw5 h5;have k5:=dE g5;have k6:ae pr (X pr) 35 [.list En 1 [Iv e1,Iv e2,Iv e3,Iv e4,Iv e5]]=Ha (Iv q,En):=fY h
 have this:∃hh,ai pr (X pr) 204 [aR r,aU u] []=Ha (Iv q,En,hh):=by
  rw[qg (show pr.br 204=Ha ⟨44,.seq jq5 (.seq jri (.seq (.seq jq6 (.block 0 xD)) jqz)),[.tmp 4]⟩from rfl) (by simp)];simp only[nj]at M;simp only[go_sem,seval,jq5,jri,jq6,jqz,ni,iG,kJ,w1,ha,k1,w2,k2,w3,k3,w4,k4,w5,k5,k6,M];exact⟨_,rfl⟩
 obtain⟨hh,this⟩:=this;exact jr rfl this (by first|rfl|simp only[go_sem,seval]) (by first|rfl|simp only[go_sem,seval])
end Go.Z
namespace Go.Z
open Go Go.Abs Go.W
def f118 (J:GEv)(bh:Int)(bf:ak ji)(aY:ak bp)(aI:ak bw):Option (Int×(ak bw)):=
 qa (qm (J.names.getD []) 0) fun v1=>
 qa (f69 (⟨bh,bf,aY,aI⟩) v1) fun v3=>
 qa (qm (aI.getD []) v3) fun v5=>
 qa (f204 (⟨bh,bf,aY,aI⟩) v5) fun v7=>
 cond (decide (v7=0))
  (qa (Wb aI v3) fun v10=>
  Ha (0,v10))
  (Ha (v7,aI))
theorem zdu {J bh bf aY aI x1 x2 x3 r}(h:f118 J bh bf aY aI=Ha r):ai pr (X pr) 118 [.ptr 0 0,aE J] [kR bh bf aY aI,x1,x2,x3]=Ha (Iv r.1,En,[kR bh bf aY r.2,x1,x2,x3]):=by
 unfold f118 at h;rw[qg (show pr.br 118=Ha Fi from rfl) (by simp)]
 repeat' first|(replace h:=qb h;obtain⟨d,g,h⟩:=h;with_reducible first|replace g:=tP g|replace g:=zic g|replace g:=jpa g|skip)|(replace h:=qc h;rcases h with⟨g,h⟩|⟨g,h⟩)
 all_goals (cases h<;>(simp only[go_sem,seval,Fi,jq, *]<;>rfl))
end Go.Z
namespace Go.Z
open Go Go.Abs Go.W
def BW (O:aw)(J:GEv):Option (Option (Nat)⊕(Nat⊕Nat)):=
 cond (decide (0<(zb J.kind).length))
  (cond (decide (((qj (zb J.kind) 0).1:Int)=45))
   (Ha (.inl (Ha (0+(qj (zb J.kind) 0).2))))
   (qa (qm (J.names.getD []) (0:Int)) fun Ll=>
   qa (f104 O ((qj (zb J.kind) 0).1:Int) Ll) fun As=>
   cond As
    (Ha (.inl (Ha (0+(qj (zb J.kind) 0).2))))
    (Ha (.inr (.inl (0+(qj (zb J.kind) 0).2))))))
  (Ha (.inr (.inr 0)))
def xa (O:aw)(J:GEv)(V:Nat):Option (Option (Nat)⊕(Nat⊕Nat)):=
 cond (decide (V<(zb J.kind).length))
  (cond (decide (((qj (zb J.kind) V).1:Int)=45))
   (Ha (.inl (Ha (V+(qj (zb J.kind) V).2))))
   (qa (qm (J.names.getD []) (V:Int)) fun rU=>
   qa (f104 O ((qj (zb J.kind) V).1:Int) rU) fun tQ=>
   cond tQ
    (Ha (.inl (Ha (V+(qj (zb J.kind) V).2))))
    (Ha (.inr (.inl (V+(qj (zb J.kind) V).2))))))
  (Ha (.inr (.inr V)))
def Gj (O:aw)(J:GEv):Option (Nat)->Option (Option (Nat)⊕(Nat⊕Nat))
 |none=>BW O J|some x=>xa O J x
def qwx (O:aw)(J:GEv)(V:Nat):bn:=⟨[(2,.ptr 0 0,En),(3,.aq (aE J),En),(4,.ptr 1 0,En),(6,.aq (.agg [.str (zb J.kind),Iv (mA J.kind),mX J.kind]),En),(24,.ptr 3 0,En),(41,.bool En,En)],[.cells [(Iv O.day,En),(sl 5 je O.az,En),(sl 4 qv O.ah,En),(sl 8 bE O.units,En)],kZ,.map jd,.iter (zb J.kind) V]⟩
def Hw (O:aw)(J:GEv):Option (Nat)->bn
 |none=>⟨[(2,.ptr 0 0,En),(3,.aq (aE J),En),(4,.ptr 1 0,En),(6,.aq (.agg [.str (zb J.kind),Iv (mA J.kind),mX J.kind]),En),(24,.ptr 3 0,En)],[.cells [(Iv O.day,En),(sl 5 je O.az,En),(sl 4 qv O.ah,En),(sl 8 bE O.units,En)],kZ,.map jd,.iter (zb J.kind) 0]⟩|some x=>qwx O J x
def Hx (O:aw)(J:GEv):Nat⊕Nat->jb×bn
 | .inl d=>(.ret,⟨[(4,.ptr 1 0,En),(5,Iv 10,En)],[.cells [(Iv O.day,En),(sl 5 je O.az,En),(sl 4 qv O.ah,En),(sl 8 bE O.units,En)],kZ,.map jd,.iter (zb J.kind) d]⟩)| .inr d=>(.exit 0,⟨[(2,.ptr 0 0,En),(3,.aq (aE J),En),(4,.ptr 1 0,En),(6,.aq (.agg [.str (zb J.kind),Iv (mA J.kind),mX J.kind]),En),(24,.ptr 3 0,En),(25,.aJ [.bool En],En),(26,.bool En,En)],[.cells [(Iv O.day,En),(sl 5 je O.az,En),(sl 4 qv O.ah,En),(sl 8 bE O.units,En)],kZ,.map jd,.iter (zb J.kind) d]⟩)
theorem jum (O:aw)(J:GEv)(r)(h:BW O J=Ha r):jy pr xE (Hw O J) (Hx O J) H2 r:=by
 unfold BW at h
 repeat' first|(replace h:=qb h;obtain⟨d,g,h⟩:=h;with_reducible first|replace g:=jyu g|skip)|(replace h:=qc h;rcases h with⟨g,h⟩|⟨g,h⟩)
 all_goals (cases h<;>((first|refine qu ?_|refine jz ?_);simp only[go_sem,seval,xE,Hw,qwx,yJ,jq,Hx, *]<;>rfl))
theorem juu (O:aw)(J:GEv)(V:Nat)(r)(h:xa O J V=Ha r):jy pr xE (Hw O J) (Hx O J) (Ha V) r:=by
 unfold xa at h
 repeat' first|(replace h:=qb h;obtain⟨d,g,h⟩:=h;with_reducible first|replace g:=jyu g|skip)|(replace h:=qc h;rcases h with⟨g,h⟩|⟨g,h⟩)
 all_goals (cases h<;>((first|refine qu ?_|refine jz ?_);simp only[go_sem,seval,xE,Hw,qwx,yJ,jq,Hx, *]<;>rfl))
theorem jwr (O:aw)(J:GEv):∀(x:Option (Nat)) (r) (h:Gj O J x=Ha r),jy pr xE (Hw O J) (Hx O J) x r
 |none,r,h=>jum O J r h|some x,r,h=>juu O J x r h
theorem jhy (O:aw)(J:GEv){V d}(h:bq (Gj O J) V=Ha d):X pr (.loop xE) (Hw O J V)=Ha (Hx O J d):=z8 (jwr O J) h
def fB (k:Nat)(O:aw)(J:GEv):Option (Int×aw):=
 bif H3 k 106 then qa (f106 J O.day O.az O.ah O.units) fun v=>Ha (v.1,{ O with az:=v.2.1 })else
 bif H3 k 107 then qa (f107 J O.day O.az O.ah O.units) fun v=>Ha (v.1,{ O with ah:=v.2.1 })else
 bif H3 k 108 then qa (f108 J O.day O.az O.ah O.units) fun v=>Ha (v.1,{ O with ah:=v.2 })else
 bif H3 k 109 then qa (f109 J O.day O.az O.ah O.units) fun v=>Ha (v.1,{ O with ah:=v.2 })else
 bif H3 k 110 then qa (f110 J O.day O.az O.ah O.units) fun v=>Ha (v.1,{ O with ah:=v.2 })else
 bif H3 k 111 then qa (f111 J O.day O.az O.ah O.units) fun v=>Ha (v.1,{ O with units:=v.2.1 })else
 bif H3 k 113 then qa (f113 J O.day O.az O.ah O.units) fun v=>Ha (v.1,{ O with units:=v.2 })else
 bif H3 k 114 then qa (f114 J O.day O.az O.ah O.units) fun v=>Ha (v.1,{ O with units:=v.2 })else
 bif H3 k 115 then qa (f115 J O.day O.az O.ah O.units) fun v=>Ha (v.1,{ O with units:=v.2 })else
 bif H3 k 116 then qa (f116 J O.day O.az O.ah O.units) fun v=>Ha (v.1,{ O with az:=v.2 })else
 bif H3 k 117 then qa (f117 J O.day O.az O.ah O.units) fun v=>Ha (v.1,{ O with az:=v.2 })else
 bif H3 k 118 then qa (f118 J O.day O.az O.ah O.units) fun v=>Ha (v.1,{ O with units:=v.2 })else
 bif H3 k 119 then qa (f119 J O.day O.az O.ah O.units) fun v=>Ha (v.1,{ O with units:=v.2 })else
 bif H3 k 112 then qa (f112 J O.day O.az O.ah O.units) fun v=>Ha (v.1,{ O with az:=v.2.1,units:=v.2.2 })else H2
theorem jkl {k O J x1 x2 x3 v}(h:fB k O J=Ha v):
  (∃w1 w2 w3:Bool,ai pr (X pr) k [.ptr 0 0,aE J] [.cells [(Iv O.day,En),(sl 5 je O.az,En),(sl 4 qv O.ah,En),(sl 8 bE O.units,En)],x1,x2,x3]=Ha (Iv v.1,En,[.cells [(Iv v.2.day,En),(sl 5 je v.2.az,w1),(sl 4 qv v.2.ah,w2),(sl 8 bE v.2.units,w3)],x1,x2,x3])/\v.2.day=O.day) \/
  (v.1=0/\v.2.day=O.day/\∃(n:Nat) (b:aK) (cs:List (AVal×Bool)),ai pr (X pr) k [.ptr 0 0,aE J] [.cells [(Iv O.day,En),(sl 5 je O.az,En),(sl 4 qv O.ah,En),(sl 8 bE O.units,En)],x1,x2,x3]=Ha (Iv 0,En,[.cells [(Iv v.2.day,En),(sl 5 je v.2.az,En),(sl 4 qv v.2.ah,En),(.ms 5 0 n,En)],x1,x2,x3,b,.cells cs])/\cs.map (·.1)=zk bE (v.2.units.getD [])/\n=(v.2.units.getD []).length/\0<n/\v.2.units.isSome=H4):=by
 unfold fB at h;rw[Hc]at h;split at h
 .rename_i hk;rw[Hb hk];obtain⟨y,hy,h⟩:=qb h;cases h;exact .inl ⟨y.2.2,En,En,zkg hy,rfl⟩
 rw[Hc]at h;split at h
 .rename_i hk;rw[Hb hk];obtain⟨y,hy,h⟩:=qb h;cases h;exact .inl ⟨En,y.2.2,En,zgb hy,rfl⟩
 rw[Hc]at h;split at h
 .rename_i hk;rw[Hb hk];obtain⟨y,hy,h⟩:=qb h;cases h;exact .inl ⟨En,En,En,zdh hy,rfl⟩
 rw[Hc]at h;split at h
 .rename_i hk;rw[Hb hk];obtain⟨y,hy,h⟩:=qb h;cases h;exact .inl ⟨En,En,En,zd2 hy,rfl⟩
 rw[Hc]at h;split at h
 .rename_i hk;rw[Hb hk];obtain⟨y,hy,h⟩:=qb h;cases h;exact .inl ⟨En,En,En,zft hy,rfl⟩
 rw[Hc]at h;split at h
 .rename_i hk;rw[Hb hk];obtain⟨y,hy,h⟩:=qb h;cases h;exact .inl ⟨En,En,y.2.2,zcu hy,rfl⟩
 rw[Hc]at h;split at h
 .rename_i hk;rw[Hb hk];obtain⟨y,hy,h⟩:=qb h;cases h;exact .inl ⟨En,En,En,zcc hy,rfl⟩
 rw[Hc]at h;split at h
 .rename_i hk;rw[Hb hk];obtain⟨y,hy,h⟩:=qb h;cases h;exact .inl ⟨En,En,En,zkl hy,rfl⟩
 rw[Hc]at h;split at h
 .rename_i hk;rw[Hb hk];obtain⟨y,hy,h⟩:=qb h;cases h;exact .inl ⟨En,En,En,zf8 hy,rfl⟩
 rw[Hc]at h;split at h
 .rename_i hk;rw[Hb hk];obtain⟨y,hy,h⟩:=qb h;cases h;exact .inl ⟨En,En,En,zfh hy,rfl⟩
 rw[Hc]at h;split at h
 .rename_i hk;rw[Hb hk];obtain⟨y,hy,h⟩:=qb h;cases h;exact .inl ⟨En,En,En,zjh hy,rfl⟩
 rw[Hc]at h;split at h
 .rename_i hk;rw[Hb hk];obtain⟨y,hy,h⟩:=qb h;cases h;exact .inl ⟨En,En,En,zdu hy,rfl⟩
 rw[Hc]at h;split at h
 .rename_i hk;rw[Hb hk];obtain⟨y,hy,h⟩:=qb h;cases h;exact .inl ⟨En,En,En,zeb hy,rfl⟩
 rw[Hc]at h;split at h
 .rename_i hk;rw[Hb hk];obtain⟨y,hy,h⟩:=qb h;cases h;rcases zhz (x1:=x1) (x2:=x2) (x3:=x3) hy with⟨Y,I,h3⟩|⟨Y,n,b,cs,I,h3,h4,h5⟩
  .refine .inl ⟨En,En,En,?_,rfl⟩;rcases y with⟨y1,y2⟩;cases I;exact h3
  .refine .inr ⟨Y,rfl,n,b,cs,I,h3,h4,h5,?_⟩;show y.2.2.isSome=H4
   cases hu:y.2.2 with
   |some _=>rfl|none=>rw[hu]at h4;simp at h4;omega
 .cases h
def J3 (x:aj):Nat:=match pX x with
 |some f=>f.2.2.2|none=>0
theorem jp7 (x:aj):mX x=fnv (J3 x):=by
 unfold mX J3;cases pX x<;>rfl
theorem jqo {k O J v}(h:fB k O J=Ha v):fnv k=.fn (.func k) [] []:=by
 cases hk:H3 k 0 with
 |false=>simp only[fnv,hk,cond_false]|true=>rw[Hb hk]at h;cases h
def f129 (O:aw)(J:GEv):Option (aw×Int):=
 qa (qm (J.values.getD []) 0) fun v1=>
 cond (decide (v1<O.day))
  (Ha (⟨0,H2,H2,H2⟩,20))
  (qa (bq (Gj O J) H2) fun d48=>match d48 with
   | .inl d50=>
    Ha (⟨0,H2,H2,H2⟩,10)
   | .inr d51=>
    qa (fB (J3 J.kind) O J) fun v=>
    cond (decide (v.1=0))
     (Ha ({ v.2 with day:=v1 },0))
     (Ha (⟨0,H2,H2,H2⟩,v.1)))
theorem j24 {O J r}(h:f129 O J=Ha r):ae pr (X pr) 129 [aR O,aE J]=Ha (.aJ [aR r.1,Iv r.2],En):=by
 unfold f129 at h;obtain⟨v1,I,h⟩:=qb h;rcases qc h with⟨h3,h⟩|⟨h3,h⟩
 .have Q:(⟨0,H2,H2,H2⟩,20)=r:=Ha.inj h;subst Q
  have this:∃hh,ai pr (X pr) 129 [aR O,aE J] []=Ha (.aJ [aZ,Iv 20],En,hh):=by
   rw[qg (show pr.br 129=Ha jK from rfl) (by simp)];simp only[go_sem,seval,jK,jm I,h3];exact⟨_,rfl⟩
  obtain⟨hh,this⟩:=this;exact jr rfl this (by first|rfl|simp only[go_sem,seval]) (by first|rfl|simp only[go_sem,seval])
 .obtain⟨d48,h49,h⟩:=qb h;rcases d48 with d50|d51
  .have qZ:X pr (.loop xE) ⟨[(2,.ptr 0 0,En),(3,.aq (aE J),En),(4,.ptr 1 0,En),(6,.aq (.agg [.str (zb J.kind),Iv (mA J.kind),mX J.kind]),En),(24,.ptr 3 0,En)],[kR O.day O.az O.ah O.units,kZ,.map jd,.iter (zb J.kind) 0]⟩=Ha (.ret,⟨[(4,.ptr 1 0,En),(5,Iv 10,En)],[kR O.day O.az O.ah O.units,kZ,.map jd,.iter (zb J.kind) d50]⟩):=jhy O J h49;have Q:(⟨0,H2,H2,H2⟩,10)=r:=Ha.inj h;subst Q
   have this:∃hh,ai pr (X pr) 129 [aR O,aE J] []=Ha (.aJ [aZ,Iv 10],En,hh):=by
    rw[qg (show pr.br 129=Ha jK from rfl) (by simp)];simp only[go_sem,seval,jK,jm I,h3,Ow,qZ];exact⟨_,rfl⟩
   obtain⟨hh,this⟩:=this;exact jr rfl this (by first|rfl|simp only[go_sem,seval]) (by first|rfl|simp only[go_sem,seval])
  .have qZ:X pr (.loop xE) ⟨[(2,.ptr 0 0,En),(3,.aq (aE J),En),(4,.ptr 1 0,En),(6,.aq (.agg [.str (zb J.kind),Iv (mA J.kind),mX J.kind]),En),(24,.ptr 3 0,En)],[kR O.day O.az O.ah O.units,kZ,.map jd,.iter (zb J.kind) 0]⟩=Ha (.exit 0,⟨[(2,.ptr 0 0,En),(3,.aq (aE J),En),(4,.ptr 1 0,En),(6,.aq (.agg [.str (zb J.kind),Iv (mA J.kind),mX J.kind]),En),(24,.ptr 3 0,En),(25,.aJ [.bool En],En),(26,.bool En,En)],[kR O.day O.az O.ah O.units,kZ,.map jd,.iter (zb J.kind) d51]⟩):=jhy O J h49;obtain⟨v,hv,h⟩:=qb h
   have hfn:mX J.kind=.fn (.func (J3 J.kind)) [] []:=by rw[jp7];exact jqo hv
   simp only[hfn]at qZ;have af:∀(n:Int) (b:aK),qy 4 (Iv n) [b,kZ,.map jd,.iter (zb J.kind) d51]=[b,kZ,.map jd,.iter (zb J.kind) d51]:=fun _ _=>z9 rfl;rcases jkl (x1:=kZ) (x2:=.map jd) (x3:=.iter (zb J.kind) d51) hv with⟨w1,w2,w3,g,hd⟩|⟨h0,hd,n,b,cs,g,g2,hn,iw,G⟩
   .rcases qc h with⟨h5,h⟩|⟨h5,h⟩
    .cases h
     have this:∃hh,ai pr (X pr) 129 [aR O,aE J] []=Ha (.aJ [aG v1 v.2.az v.2.ah v.2.units,Iv 0],En,hh):=by
      rw[qg (show pr.br 129=Ha jK from rfl) (by simp)];simp only[go_sem,seval,jK,jm I,h3,Ow,qZ,hfn,g,af,h5];exact⟨_,rfl⟩
     obtain⟨hh,this⟩:=this;exact jr rfl this (by first|rfl|simp only[go_sem,seval]) (by first|rfl|simp only[go_sem,seval])
    .cases h
     have this:∃hh,ai pr (X pr) 129 [aR O,aE J] []=Ha (.aJ [aZ,Iv v.1],En,hh):=by
      rw[qg (show pr.br 129=Ha jK from rfl) (by simp)];simp only[go_sem,seval,jK,jm I,h3,Ow,qZ,hfn,g,af,h5];exact⟨_,rfl⟩
     obtain⟨hh,this⟩:=this;exact jr rfl this (by first|rfl|simp only[go_sem,seval]) (by first|rfl|simp only[go_sem,seval])
   .have h5:decide (v.1=0)=H4:=decide_eq_true h0;rw[h5]at h;cases h;have ab:∀(n:Int) (c:aK),qy 4 (Iv n) [c,kZ,.map jd,.iter (zb J.kind) d51,b,.cells cs]=(bif zn 4 c&&qr 4 [kZ,.map jd,.iter (zb J.kind) d51]then [c,kZ,.map jd,.iter (zb J.kind) d51]else [c,kZ,.map jd,.iter (zb J.kind) d51,b,.cells cs]):=fun _ _=>rfl
    have this:ai pr (X pr) 129 [aR O,aE J] []=Ha (.aJ [.agg [Iv v1,sl 5 je v.2.az,sl 4 qv v.2.ah,.ms 5 0 n],Iv 0],En,[.cells [(Iv v1,En),(sl 5 je v.2.az,En),(sl 4 qv v.2.ah,En),(.ms 5 0 n,En)],.cells [(Iv v1,En),(sl 5 je v.2.az,En),(sl 4 qv v.2.ah,En),(.ms 5 0 n,En)],.map jd,.iter (zb J.kind) d51,b,.cells cs]):=by
     rw[qg (show pr.br 129=Ha jK from rfl) (by simp)];simp only[go_sem,seval,jK,jm I,h3,Ow,qZ,hfn,g,(show ∀n,below 4 (.ms 5 0 n)=En from fun _=>rfl),Bool.false_and,Bool.and_false,cond_false]<;>rfl
    have fz:jL [.cells [(Iv v1,En),(sl 5 je v.2.az,En),(sl 4 qv v.2.ah,En),(.ms 5 0 n,En)],.cells [(Iv v1,En),(sl 5 je v.2.az,En),(sl 4 qv v.2.ah,En),(.ms 5 0 n,En)],.map jd,.iter (zb J.kind) d51,b,.cells cs] (.ms 5 0 n)=Ha (sl 8 bE v.2.units):=by
     have hu:v.2.units=Ha (v.2.units.getD []):=by cases hq:v.2.units with
      |some _=>rfl|none=>rw[hq]at G;cases G
     rw[hn]at iw ⊢;rw[hu];exact vQ eo iw g2
    refine jr rfl this (v':=.aJ [aG v1 v.2.az v.2.ah v.2.units,Iv 0]) ?_ (by first|rfl|simp only[go_sem,seval]);simp only[go_sem,seval,fz]<;>rfl
end Go.Z
end
