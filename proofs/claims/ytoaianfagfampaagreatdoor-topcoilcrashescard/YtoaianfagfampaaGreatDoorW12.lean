/- Chapter 10. -/
import Derived.Test.YtoaianfagfampaaGreatDoorW1
set_option linter.all false
set_option maxRecDepth 100000
set_option maxHeartbeats 4000000
noncomputable section
open Bool renaming false->Eg,cond_eq_ite->E4,true->E8,and_false->G5
open Option renaming some->Eh,none->En,isNone_none->G1
open Nat renaming eq_of_beq_eq_true->E3,beq->E9,ble_eq_true_of_le->G0,le_refl->G4
namespace Go.Z
open Go Go.Abs Go.W
def f112 (O:av)(J:GEv):Option (av×Int):=
 qc (qo (J.names.getD []) 0) fun v1=>
 qc (f182 O v1) fun v3=>
 cond (decide (v3<0))
  (Eh (O,10))
  (qc (qo (O.ay.getD []) v3) fun v6=>
  cond (decide (J.kind=([104,111,108,100]:aj)))
   (cond v6.held
    (Eh (O,34))
    (cond (decide (J.kind=([102,114,101,101]:aj)))
     (Eh (O,20))
     (qc (f188 O v3 (⟨v6.name,v6.kind,v6.count,v6.left,E8⟩)) fun v11=>
     Eh (v11,0))))
   (cond (decide (J.kind=([102,114,101,101]:aj)))
    (cond v6.held
     (qc (f188 O v3 (⟨v6.name,v6.kind,v6.count,v6.left,Eg⟩)) fun dS=>
     Eh (dS,0))
     (Eh (O,20)))
    (qc (f188 O v3 (⟨v6.name,v6.kind,v6.count,v6.left,Eg⟩)) fun fS=>
    Eh (fS,0))))
theorem j7v {O J r}(h:f112 O J=Eh r):ae pr (X pr) 112 [aR O,aE J]=Eh (.bq [aR r.1,Iv r.2],Eg):=by
 unfold f112 at h;refine zd Ej ?_
 repeat' first|(replace h:=qd h;obtain⟨d,g,h⟩:=h;with_reducible first|replace g:=Kz g|replace g:=juo g|skip)|(replace h:=qe h;rcases h with⟨g,h⟩|⟨g,h⟩)
 all_goals (cases h<;>(simp only[go_sem,seval,Ej,jn, *];exact⟨_,rfl⟩))
def f111 (O:av)(J:GEv):Option (av×Int):=
 qc (qo (J.names.getD []) 0) fun v1=>
 qc (f183 O v1) fun v3=>
 cond (decide (v3<0))
  (Eh (O,10))
  (qc (qo (O.ah.getD []) v3) fun v6=>
  cond (decide (J.kind=([110,101,101,100]:aj)))
   (qc (qo (J.values.getD []) 1) fun v9=>
   cond (decide (10000<v9))
    (Eh (O,3))
    (qc (qo (J.names.getD []) 1) fun v12=>
    qc (f185 v6.dn (⟨v12,v9⟩)) fun dm=>
    cond dm.2
     (cond (decide (16<((dm.1.getD []).length:Int)))
      (Eh (O,5))
      (qc (f187 O v3 (⟨v6.name,dm.1,v6.dt,v6.bg⟩)) fun eU=>
      Eh (eU,0)))
     (cond (decide (16<((dm.1.getD []).length:Int)))
      (Eh (O,5))
      (qc (f187 O v3 (⟨v6.name,dm.1,v6.dt,v6.bg⟩)) fun v21=>
      Eh (v21,0)))))
   (cond (decide (J.kind=([116,101,115,116]:aj)))
    (qc (qo (J.values.getD []) 2) fun v24=>
    qc (qo (J.values.getD []) 1) fun v26=>
    cond (decide (v24<v26))
     (Eh (O,11))
     (qc (qo (J.names.getD []) 1) fun et=>
     qc (f186 v6.dt (⟨et,v26,v24⟩)) fun v31=>
     cond v31.2
      (cond (decide (16<((v31.1.getD []).length:Int)))
       (Eh (O,5))
       (qc (f187 O v3 (⟨v6.name,v6.dn,v31.1,v6.bg⟩)) fun s9=>
       Eh (s9,0)))
      (cond (decide (16<((v31.1.getD []).length:Int)))
       (Eh (O,5))
       (qc (f187 O v3 (⟨v6.name,v6.dn,v31.1,v6.bg⟩)) fun D9=>
       Eh (D9,0)))))
    (cond (decide (((v6.dn.getD []).length:Int)=0))
     (Eh (O,12))
     (cond (decide (100<=((v6.bg.getD []).length:Int)))
      (Eh (O,5))
      (qc (bB (Eh []) (v6.bg.getD [])) fun Xb=>
      qc (bB Xb [⟨v6.dn,v6.dt⟩]) fun Dv=>
      qc (f187 O v3 (⟨v6.name,v6.dn,v6.dt,Dv⟩)) fun v46=>
      Eh (v46,0))))))
theorem j87 {O J r}(h:f111 O J=Eh r):ae pr (X pr) 111 [aR O,aE J]=Eh (.bq [aR r.1,Iv r.2],Eg):=by
 unfold f111 at h;refine zd Ek ?_
 repeat' first|(replace h:=qd h;obtain⟨d,g,h⟩:=h;with_reducible first|replace g:=O7 g|replace g:=j7c g|replace g:=j50 g|replace g:=j68 g|replace g:=jaa g|skip)|(replace h:=qe h;rcases h with⟨g,h⟩|⟨g,h⟩)
 all_goals (cases h<;>(simp only[go_sem,seval,Ek,jn,nv, *];exact⟨_,rfl⟩))
def yI (O:av)(J:Int)(a2:GEv)(v1:bp)(v5:Int)(v8:ji)(dS:b9)(V:Bool×Int):Option ((Bool×Int)⊕((Bool×Int))):=
 cond (decide (V.2<((dS.aX.getD []).length:Int)))
  (cond V.1
   (Eh (.inl (E8,qf .i64 (V.2+1))))
   (qc (qo (dS.aX.getD []) V.2) fun v26=>
   Eh (.inl (decide (v26.k=v8.kind),qf .i64 (V.2+1)))))
  (Eh (.inr (V.1,V.2)))
def QF (O:av)(J:Int)(a2:GEv)(v1:bp)(v5:Int)(v8:ji)(dS:b9)(V:Bool×Int):bj:=⟨[(1,Iv J,Eg),(3,.aq (aR O),Eg),(5,.aq (aE a2),Eg),(6,.ptr 0 0,Eg),(8,.ptr 1 0,Eg),(9,Iv v5,Eg),(10,.ptr 2 0,Eg),(11,.aq (aD dS),Eg),(12,.bool V.1,Eg),(13,Iv V.2,Eg)],[kZ,.cells [(.str v1.name,Eg),(.str v1.product,Eg),(Iv v1.version,Eg),(sl 2 bz v1.uses,Eg),(sl 3 je v1.results,Eg),(.str v1.partner,Eg),(.bool Eg,Eg),(Iv v1.au,Eg)],.cells [(.str v8.name,Eg),(.str v8.kind,Eg),(Iv v8.count,Eg),(Iv v8.left,Eg),(.bool Eg,Eg)]]⟩
def QG (O:av)(J:Int)(a2:GEv)(v1:bp)(v5:Int)(v8:ji)(dS:b9)(d:(Bool×Int)):jc×bj:=(.exit 0,⟨[(1,Iv J,Eg),(3,.aq (aR O),Eg),(5,.aq (aE a2),Eg),(6,.ptr 0 0,Eg),(8,.ptr 1 0,Eg),(9,Iv v5,Eg),(10,.ptr 2 0,Eg),(11,.aq (aD dS),Eg),(12,.bool d.1,Eg),(13,Iv d.2,Eg),(52,.bool Eg,Eg)],[kZ,.cells [(.str v1.name,Eg),(.str v1.product,Eg),(Iv v1.version,Eg),(sl 2 bz v1.uses,Eg),(sl 3 je v1.results,Eg),(.str v1.partner,Eg),(.bool Eg,Eg),(Iv v1.au,Eg)],.cells [(.str v8.name,Eg),(.str v8.kind,Eg),(Iv v8.count,Eg),(Iv v8.left,Eg),(.bool Eg,Eg)]]⟩)
theorem jtz (O:av)(J:Int)(a2:GEv)(v1:bp)(v5:Int)(v8:ji)(dS:b9)(V:Bool×Int)(r)(h:yI O J a2 v1 v5 v8 dS V=Eh r):js pr QH (QF O J a2 v1 v5 v8 dS) (QG O J a2 v1 v5 v8 dS) V r:=by
 unfold yI at h
 repeat' first|(replace h:=qd h;obtain⟨d,g,h⟩:=h)|(replace h:=qe h;rcases h with⟨g,h⟩|⟨g,h⟩)
 all_goals (cases h<;>((first|refine qw ?_|refine jy ?_);simp only[go_sem,seval,QH,QF,jn,QG, *]<;>rfl))
theorem jsr (O:av)(J:Int)(a2:GEv)(v1:bp)(v5:Int)(v8:ji)(dS:b9){V d}(h:bu (yI O J a2 v1 v5 v8 dS) V=Eh d):X pr (.loop QH) (QF O J a2 v1 v5 v8 dS V)=Eh (QG O J a2 v1 v5 v8 dS d):=zq (jtz O J a2 v1 v5 v8 dS) h
def f189 (O:av)(J:Int)(a2:GEv):Option (av×Int):=
 qc (qo (O.units.getD []) J) fun v1=>
 qc (qo (a2.names.getD []) 1) fun v3=>
 qc (f182 O v3) fun v5=>
 cond (decide (v5<0))
  (Eh (O,10))
  (qc (qo (O.ay.getD []) v5) fun v8=>
  cond v1.ax
   (Eh (O,21))
   (qc (qo (a2.values.getD []) 1) fun v11=>
   cond (decide (v11=0))
    (Eh (O,3))
    (cond v8.held
     (Eh (O,34))
     (qc (f191 O (⟨v1.name,v1.product,v1.version,v1.uses,v1.results,v1.partner,Eg,v1.au⟩)) fun dS=>
     qc (bu (yI O J a2 v1 v5 v8 dS) (Eg,0)) fun d28=>
     cond d28.1
      (cond (decide (v8.left<v11))
       (Eh (O,4))
       (qc (f231 v1.uses v8.name v11) fun ie=>
       cond ie.2
        (qc (f188 O v5 (⟨v8.name,v8.kind,v8.count,qf .i64 (v8.left-v11),Eg⟩)) fun s9=>
        qc (f194 s9 J (⟨v1.name,v1.product,v1.version,ie.1,v1.results,v1.partner,Eg,v1.au⟩)) fun v37=>
        Eh (v37,0))
        (qc (f188 O v5 (⟨v8.name,v8.kind,v8.count,qf .i64 (v8.left-v11),Eg⟩)) fun B4=>
        qc (f194 B4 J (⟨v1.name,v1.product,v1.version,ie.1,v1.results,v1.partner,Eg,v1.au⟩)) fun Eb=>
        Eh (Eb,0))))
      (Eh (O,7))))))
theorem j7g {O J a2 r}(h:f189 O J a2=Eh r):ae pr (X pr) 189 [aR O,Iv J,aE a2]=Eh (.bq [aR r.1,Iv r.2],Eg):=by
 unfold f189 at h;refine zd El ?_
 repeat' first|(replace h:=qd h;obtain⟨d,g,h⟩:=h;with_reducible first|replace g:=Kz g|replace g:=Pj g|replace g:=j7n g|replace g:=juo g|replace g:=W8 g|(replace g:=jsr O J a2 _ _ _ _ g;dsimp only[QF,QG,zp]at g h)|skip)|(replace h:=qe h;rcases h with⟨g,h⟩|⟨g,h⟩)
 all_goals (cases h<;>(simp only[go_sem,seval,El,jn, *];exact⟨_,rfl⟩))
def f190 (O:av)(J:Int)(a2:GEv):Option (av×Int):=
 qc (qo (O.units.getD []) J) fun v1=>
 qc (qo (a2.names.getD []) 1) fun v3=>
 qc (f184 O v3) fun v5=>
 cond (decide (v5<0))
  (Eh (O,10))
  (qc (qo (O.units.getD []) v5) fun v8=>
  cond (decide (v5=J))
   (Eh (O,9))
   (cond (decide (v1.product=v8.product))
    (cond (decide (v1.version=v8.version))
     (cond v1.ax
      (Eh (O,21))
      (cond v8.ax
       (Eh (O,21))
       (cond (decide (v1.partner=[]))
        (cond (decide (v8.partner=[]))
         (qc (f194 O J (⟨v1.name,v1.product,v1.version,v1.uses,v1.results,v8.name,Eg,v1.au⟩)) fun fS=>
         qc (f194 fS v5 (⟨v8.name,v8.product,v8.version,v8.uses,v8.results,v1.name,Eg,v8.au⟩)) fun kG=>
         Eh (kG,0))
         (Eh (O,35)))
        (Eh (O,35)))))
     (Eh (O,30)))
    (Eh (O,30))))
theorem zab {O J a2 r}(h:f190 O J a2=Eh r):ae pr (X pr) 190 [aR O,Iv J,aE a2]=Eh (.bq [aR r.1,Iv r.2],Eg):=by
 unfold f190 at h;refine zd Em ?_
 repeat' first|(replace h:=qd h;obtain⟨d,g,h⟩:=h;with_reducible first|replace g:=WI g|replace g:=W8 g|skip)|(replace h:=qe h;rcases h with⟨g,h⟩|⟨g,h⟩)
 all_goals (cases h<;>(simp only[go_sem,seval,Em,jn, *];exact⟨_,rfl⟩))
def yJ (O:av)(J:GEv)(v3:Int)(v6:bp)(dZ:b9)(V:Bool×Int):Option ((Bool×Int)⊕((Bool×Int))):=
 cond (decide (V.2<((dZ.aO.getD []).length:Int)))
  (cond V.1
   (Eh (.inl (E8,qf .i64 (V.2+1))))
   (qc (qo (dZ.aO.getD []) V.2) fun v31=>
   qc (qo (J.names.getD []) 1) fun xi=>
   Eh (.inl (decide (v31.k=xi),qf .i64 (V.2+1)))))
  (Eh (.inr (V.1,V.2)))
def QI (O:av)(J:GEv)(v3:Int)(v6:bp)(dZ:b9)(V:Bool×Int):bj:=⟨[(2,.aq (aR O),Eg),(3,.aq (aE J),Eg),(4,.ptr 0 0,Eg),(6,Iv v3,Eg),(7,.ptr 1 0,Eg),(8,.aq (aD dZ),Eg),(9,.bool V.1,Eg),(10,Iv V.2,Eg)],[kZ,.cells [(.str v6.name,Eg),(.str v6.product,Eg),(Iv v6.version,Eg),(sl 2 bz v6.uses,Eg),(sl 3 je v6.results,Eg),(.str v6.partner,Eg),(.bool Eg,Eg),(Iv v6.au,Eg)]]⟩
def QJ (O:av)(J:GEv)(v3:Int)(v6:bp)(dZ:b9)(d:(Bool×Int)):jc×bj:=(.exit 1,⟨[(2,.aq (aR O),Eg),(3,.aq (aE J),Eg),(4,.ptr 0 0,Eg),(6,Iv v3,Eg),(7,.ptr 1 0,Eg),(8,.aq (aD dZ),Eg),(9,.bool d.1,Eg),(10,Iv d.2,Eg),(64,.bool Eg,Eg)],[kZ,.cells [(.str v6.name,Eg),(.str v6.product,Eg),(Iv v6.version,Eg),(sl 2 bz v6.uses,Eg),(sl 3 je v6.results,Eg),(.str v6.partner,Eg),(.bool Eg,Eg),(Iv v6.au,Eg)]]⟩)
theorem ju5 (O:av)(J:GEv)(v3:Int)(v6:bp)(dZ:b9)(V:Bool×Int)(r)(h:yJ O J v3 v6 dZ V=Eh r):js pr QK (QI O J v3 v6 dZ) (QJ O J v3 v6 dZ) V r:=by
 unfold yJ at h
 repeat' first|(replace h:=qd h;obtain⟨d,g,h⟩:=h)|(replace h:=qe h;rcases h with⟨g,h⟩|⟨g,h⟩)
 all_goals (cases h<;>((first|refine qw ?_|refine jy ?_);simp only[go_sem,seval,QK,QI,jn,QJ, *]<;>rfl))
theorem jtg (O:av)(J:GEv)(v3:Int)(v6:bp)(dZ:b9){V d}(h:bu (yJ O J v3 v6 dZ) V=Eh d):X pr (.loop QK) (QI O J v3 v6 dZ V)=Eh (QJ O J v3 v6 dZ d):=zq (ju5 O J v3 v6 dZ) h
def f113 (O:av)(J:GEv):Option (av×Int):=
 qc (qo (J.names.getD []) 0) fun v1=>
 qc (f184 O v1) fun v3=>
 cond (decide (v3<0))
  (Eh (O,10))
  (qc (qo (O.units.getD []) v3) fun v6=>
  cond (decide (J.kind=([117,115,101]:aj)))
   (qc (f189 O v3 J) fun v9=>
   Eh (v9.1,v9.2))
   (cond (decide (J.kind=([112,97,105,114]:aj)))
    (qc (f190 O v3 J) fun v12=>
    Eh (v12.1,v12.2))
    (cond (decide (J.kind=([109,101,97,115,117,114,101]:aj)))
     (cond v6.ax
      (Eh (O,21))
      (qc (f191 O (⟨v6.name,v6.product,v6.version,v6.uses,v6.results,v6.partner,Eg,v6.au⟩)) fun dZ=>
      qc (bu (yJ O J v3 v6 dZ) (Eg,0)) fun d35=>
      cond d35.1
       (cond (decide (64<=((v6.results.getD []).length:Int)))
        (Eh (O,5))
        (qc (bB (Eh []) (v6.results.getD [])) fun B4=>
        qc (qo (J.names.getD []) 1) fun Eb=>
        qc (qo (J.values.getD []) 1) fun KD=>
        qc (bB B4 [⟨Eb,v6.version,KD⟩]) fun zW=>
        qc (f194 O v3 (⟨v6.name,v6.product,v6.version,v6.uses,zW,v6.partner,Eg,v6.au⟩)) fun v47=>
        Eh (v47,0)))
       (Eh (O,7))))
     (cond (decide (J.kind=([117,112,100,97,116,101]:aj)))
      (cond v6.ax
       (Eh (O,21))
       (qc (f192 O (⟨v6.name,v6.product,v6.version,v6.uses,v6.results,v6.partner,Eg,v6.au⟩)) fun v51=>
       cond (decide (v6.version=v51))
        (Eh (O,32))
        (qc (f194 O v3 (⟨v6.name,v6.product,v51,v6.uses,v6.results,v6.partner,Eg,v6.au⟩)) fun QA=>
        Eh (QA,0))))
      (cond (decide (J.kind=([115,104,105,112]:aj)))
       (qc (f193 O v6) fun QB=>
       cond (decide (QB=0))
        (qc (f194 O v3 (⟨v6.name,v6.product,v6.version,v6.uses,v6.results,v6.partner,E8,v6.au⟩)) fun v60=>
        Eh (v60,0))
        (Eh (O,QB)))
       (cond v6.ax
        (qc (f194 O v3 (⟨v6.name,v6.product,v6.version,v6.uses,v6.results,v6.partner,E8,qf .i64 (v6.au+1)⟩)) fun v63=>
        Eh (v63,0))
        (Eh (O,20))))))))
theorem j5y {O J r}(h:f113 O J=Eh r):ae pr (X pr) 113 [aR O,aE J]=Eh (.bq [aR r.1,Iv r.2],Eg):=by
 unfold f113 at h;refine zd Eo ?_
 repeat' first|(replace h:=qd h;obtain⟨d,g,h⟩:=h;with_reducible first|replace g:=WI g|replace g:=j7g g|replace g:=zab g|replace g:=Pj g|replace g:=W8 g|replace g:=jvh g|replace g:=zbh g|replace g:=Fj g|(replace g:=jtg O J _ _ _ g;dsimp only[QI,QJ,zp]at g h)|skip)|(replace h:=qe h;rcases h with⟨g,h⟩|⟨g,h⟩)
 all_goals (cases h<;>(simp only[go_sem,seval,Eo,jn,nv, *];exact⟨_,rfl⟩))
def f46 (O:av)(J:GEv):Option (av×Int):=
 qc (qo (J.values.getD []) 0) fun v1=>
 cond (decide (v1<O.day))
  (Eh (O,20))
  (cond (decide (J.kind=([108,111,116]:aj)))
   (qc (f110 O J) fun v5=>
   Eh (⟨v1,v5.1.ay,v5.1.ah,v5.1.units⟩,v5.2))
   (cond (decide (J.kind=([112,114,111,100,117,99,116]:aj)))
    (qc (f110 O J) fun v8=>
    Eh (⟨v1,v8.1.ay,v8.1.ah,v8.1.units⟩,v8.2))
    (cond (decide (J.kind=([98,117,105,108,100]:aj)))
     (qc (f110 O J) fun v11=>
     Eh (⟨v1,v11.1.ay,v11.1.ah,v11.1.units⟩,v11.2))
     (cond (decide (J.kind=([110,101,101,100]:aj)))
      (qc (f111 O J) fun dm=>
      Eh (⟨v1,dm.1.ay,dm.1.ah,dm.1.units⟩,dm.2))
      (cond (decide (J.kind=([116,101,115,116]:aj)))
       (qc (f111 O J) fun fS=>
       Eh (⟨v1,fS.1.ay,fS.1.ah,fS.1.units⟩,fS.2))
       (cond (decide (J.kind=([105,115,115,117,101]:aj)))
        (qc (f111 O J) fun v20=>
        Eh (⟨v1,v20.1.ay,v20.1.ah,v20.1.units⟩,v20.2))
        (cond (decide (J.kind=([104,111,108,100]:aj)))
         (qc (f112 O J) fun v23=>
         Eh (⟨v1,v23.1.ay,v23.1.ah,v23.1.units⟩,v23.2))
         (cond (decide (J.kind=([102,114,101,101]:aj)))
          (qc (f112 O J) fun v26=>
          Eh (⟨v1,v26.1.ay,v26.1.ah,v26.1.units⟩,v26.2))
          (qc (f113 O J) fun v28=>
          Eh (⟨v1,v28.1.ay,v28.1.ah,v28.1.units⟩,v28.2))))))))))
theorem W46 {O J r}(h:f46 O J=Eh r):ae pr (X pr) 46 [aR O,aE J]=Eh (.bq [aR r.1,Iv r.2],Eg):=by
 unfold f46 at h;refine zd Xw ?_
 repeat' first|(replace h:=qd h;obtain⟨d,g,h⟩:=h;with_reducible first|replace g:=j5i g|replace g:=j87 g|replace g:=j7v g|replace g:=j5y g|skip)|(replace h:=qe h;rcases h with⟨g,h⟩|⟨g,h⟩)
 all_goals (cases h<;>(simp only[go_sem,seval,Xw,jn, *];exact⟨_,rfl⟩))
end Go.Z
namespace Go.Z
open Go Go.Abs Go.W
def f24 (O:GEv):Option Int:=
 qc (f90 O.number 1 1000) fun v1=>
 qc (f18 (!(lP O.kind)) 13) fun v3=>
 qc (f18 (!(decide (((O.names.getD []).length:Int)=((j0 O.kind).length:Int))&&decide (((O.values.getD []).length:Int)=(lO O.kind)))) 2) fun v5=>
 qc (f17 (Eh [v1,v3,v5])) fun v7=>
 cond (decide (v7=0))
  (qc (f91 O.names) fun v10=>
  qc (f93 O.values) fun v12=>
  qc (f17 v10.1) fun dm=>
  qc (f17 v12.1) fun dZ=>
  qc (f18 (!decide (O.text=[])) 1) fun eU=>
  qc (f17 (Eh [dm,dZ,eU])) fun v20=>
  Eh v20)
  (Eh v7)
theorem FW {O r}(h:f24 O=Eh r):ae pr (X pr) 24 [aE O]=Eh (Iv r,Eg):=by
 unfold f24 at h;refine zd Xx ?_
 repeat' first|(replace h:=qd h;obtain⟨d,g,h⟩:=h; (with_reducible first|replace g:=OD g|replace g:=dp g|replace g:=fC g|replace g:=W91 g|replace g:=W93 g|skip);try dsimp only[zp,nu,List.map,zg,jf,jd,qz,bC,ju,vev,bz,je,yr,aE,aR,aU,aL,aP,aD]at g)|(replace h:=qe h;rcases h with⟨g,h⟩|⟨g,h⟩)
 all_goals (cases h<;>(simp only[go_sem,seval,Xx,sQ, *];exact⟨_,rfl⟩))
end Go.Z
namespace Go.Z
open Go Go.Abs Go.W
def pK (O:ak GEv)(V:(ak GEv)×(ak av)×Int×Bool×Bool):Option (((ak GEv)×(ak av)×Int×Bool×Bool)⊕((Int×Int×Int×(ak ji)×(ak bm)×(ak bp))⊕((ak GEv)×Bool×(ak av)×Bool×Int))):=
 cond (decide (V.2.2.1<((O.getD []).length:Int)))
  (qc (qo (O.getD []) V.2.2.1) fun v75=>
  qc (f45 v75) fun v77=>
  cond (decide (v77=0))
   (cond (decide (v75.number=(qf .i64 (V.2.2.1+1))))
    (cond (decide (v75.kind=([117,110,100,111]:aj)))
     (cond (decide (((V.1.getD []).length:Int)=0))
      (Eh (.inr (.inl (qf .i64 (V.2.2.1+1),12,0,En,En,En))))
      (qc (qo (V.1.getD []) (qf .i64 (((V.1.getD []).length:Int)-1))) fun Xk=>
      cond (decide (Xk.kind=([115,104,105,112]:aj)))
       (Eh (.inr (.inl (qf .i64 (V.2.2.1+1),19,0,En,En,En))))
       (qc (mH V.1 En (Eh (qf .i64 (((V.1.getD []).length:Int)-1)))) fun v86=>
       qc (mH V.2.1 En (Eh ((V.1.getD []).length:Int))) fun Xl=>
       Eh (.inl (v86,Xl,qf .i64 (V.2.2.1+1),Eg,Eg)))))
     (qc (qo (V.2.1.getD []) ((V.1.getD []).length:Int)) fun QC=>
     qc (f46 QC v75) fun Ep=>
     cond (decide (Ep.2=0))
      (qc (bB (Eh []) (V.1.getD [])) fun Xm=>
      qc (bB Xm [v75]) fun Xn=>
      qc (bB (Eh []) (V.2.1.getD [])) fun QD=>
      qc (bB QD [Ep.1]) fun Xy=>
      Eh (.inl (Xn,Xy,qf .i64 (V.2.2.1+1),E8,E8)))
      (Eh (.inr (.inl (qf .i64 (V.2.2.1+1),Ep.2,Ep.1.day,Ep.1.ay,Ep.1.ah,Ep.1.units))))))
    (Eh (.inr (.inl (qf .i64 (V.2.2.1+1),11,0,En,En,En)))))
   (Eh (.inr (.inl (qf .i64 (V.2.2.1+1),v77,0,En,En,En)))))
  (Eh (.inr (.inr (V.1,V.2.2.2.1,V.2.1,V.2.2.2.2,V.2.2.1))))
def zX (O:ak GEv)(V:(ak GEv)×(ak av)×Int×Bool×Bool):bj:=⟨[(0,sl 5 vev O,Eg),(3,.ptr 0 0,Eg),(6,sl 5 vev V.1,V.2.2.2.1),(7,sl 4 ju V.2.1,V.2.2.2.2),(8,Iv V.2.2.1,Eg)],[kZ]⟩
def GH (O:ak GEv):(Int×Int×Int×(ak ji)×(ak bm)×(ak bp))⊕((ak GEv)×Bool×(ak av)×Bool×Int)->jc×bj
 | .inl d=>(.ret,⟨[(2,Nl,Eg),(3,.ptr 0 0,Eg),(4,Iv d.1,Eg),(5,Iv d.2.1,Eg)],[kZ,.cells [(Iv d.2.2.1,Eg),(sl 5 jd d.2.2.2.1,Eg),(sl 4 qz d.2.2.2.2.1,Eg),(sl 8 bC d.2.2.2.2.2,Eg)]]⟩)| .inr d=>(.exit 0,⟨[(0,sl 5 vev O,Eg),(3,.ptr 0 0,Eg),(6,sl 5 vev d.1,d.2.1),(7,sl 4 ju d.2.2.1,d.2.2.2.1),(8,Iv d.2.2.2.2,Eg),(21,.bool Eg,Eg)],[kZ]⟩)
theorem jzu (O:ak GEv)(V:(ak GEv)×(ak av)×Int×Bool×Bool)(r)(h:pK O V=Eh r):js pr GI (zX O) (GH O) V r:=by
 unfold pK at h
 repeat' first|(replace h:=qd h;obtain⟨d,g,h⟩:=h;with_reducible first|replace g:=W45 g|replace g:=W46 g|replace g:=jts g|replace g:=jtc g|replace g:=jp9 g|skip)|(replace h:=qe h;rcases h with⟨g,h⟩|⟨g,h⟩)
 all_goals (cases h<;>(first|(refine qw ?_;simp only[go_sem,seval,GI,zX,jn,GH,nv, *]<;>rfl)|(refine jy ?_;simp only[go_sem,seval,GI,zX,jn,GH,nv, *]<;>rfl)|(refine q94 ?_ rfl (by first|simp only[go_sem,seval,zX]|rfl) (by first|simp only[go_sem,seval,zX]|rfl);simp only[go_sem,seval,GI,zX,jn,GH,nv, *];exact⟨_,rfl⟩)))
theorem jys (O:ak GEv){V d}(h:bu (pK O) V=Eh d):X pr (.loop GI) (zX O V)=Eh (GH O d):=zq (jzu O) h
def f15 (O:ak GEv):Option ((ak GEv)×av×Int×Int):=
 cond (decide (1000<((O.getD []).length:Int)))
  (Eh (En,⟨0,En,En,En⟩,0,5))
  (qc (bu (pK O) (En,Eh [⟨0,En,En,En⟩],0,Eg,E8)) fun d103=>match d103 with
   | .inl d105=>
    Eh (En,⟨0,En,En,En⟩,d105.1,d105.2.1)
   | .inr d106=>
    qc (qo (d106.2.2.1.getD []) ((d106.1.getD []).length:Int)) fun v107=>
    Eh (d106.1,v107,0,0))
theorem W15 {O r}(h:f15 O=Eh r):ae pr (X pr) 15 [sl 5 vev O]=Eh (.bq [sl 5 vev r.1,aR r.2.1,Iv r.2.2.1,Iv r.2.2.2],Eg):=by
 unfold f15 at h;refine zd Xz ?_
 repeat' first|(replace h:=qd h;obtain⟨d,g,h⟩:=h; (with_reducible first|(replace g:=jys O g;rcases d with d|d<;>dsimp only[zX,GH,zp,nu,List.map,zg,jf,jd,qz,bC,ju,vev,bz,je,yr]at g h)|skip);try dsimp only[zp,nu,List.map,zg,jf,jd,qz,bC,ju,vev,bz,je,yr,aE,aR,aU,aL,aP,aD]at g)|(replace h:=qe h;rcases h with⟨g,h⟩|⟨g,h⟩)
 all_goals (cases h<;>(simp only[go_sem,seval,Xz,jn, *];exact⟨_,rfl⟩))
def f6 (O:ak GEv):Option (av×Int×Int):=
 qc (f15 O) fun v1=>
 Eh (v1.2.1,v1.2.2.1,v1.2.2.2)
theorem W6 {O r}(h:f6 O=Eh r):ae pr (X pr) 6 [sl 5 vev O]=Eh (.bq [aR r.1,Iv r.2.1,Iv r.2.2],Eg):=by
 unfold f6 at h;refine zd c6 ?_
 repeat' first|(replace h:=qd h;obtain⟨d,g,h⟩:=h;with_reducible first|replace g:=W15 g|skip)|(replace h:=qe h;rcases h with⟨g,h⟩|⟨g,h⟩)
 all_goals (cases h<;>(simp only[go_sem,seval,c6, *];exact⟨_,rfl⟩))
end Go.Z
namespace Go.Z
open Go Go.Abs Go.W
def XA (O:bD)(e0:List (aj×Int)):Option Bool:=
 Eh (decide ((nz e0 O.k)<O.n))
theorem j1n {O e0 r}(h:XA O e0=Eh r):ai pr (X pr) 241 [aN O,.aq (.map 0)] [.map (eT e0)]=Eh (.bool r,Eg,[.map (eT e0)]):=by
 unfold XA at h;have Q:decide ((nz e0 O.k)<O.n)=r:=Eh.inj h;subst Q;rw[qh (show pr.bn 241=Eh Er from rfl) (by simp)];simp only[go_sem,seval,Er,jm7]<;>rfl
def QL (O:ak bD)(e0:List (aj×Int))(V:Int):Option (Int⊕(Int⊕Int)):=
 cond (decide (V<((O.getD []).length:Int)))
  (qc (qo (O.getD []) V) fun dm=>
  qc (XA dm e0) fun dZ=>
  cond dZ
   (Eh (.inr (.inl V)))
   (Eh (.inl (qf .i64 (V+1)))))
  (Eh (.inr (.inr V)))
def QM (O:ak bD)(e0:List (aj×Int))(V:Int):bj:=⟨[(0,sl 2 bz O,Eg),(1,.fn (.func 241) [] [.aq (.map 0)],Eg),(7,Lv O,Eg),(8,Iv V,Eg)],[.map (eT e0)]⟩
def QN (O:ak bD)(e0:List (aj×Int)):Int⊕Int->jc×bj
 | .inl d=>(.ret,⟨[(4,Iv d,Eg)],[.map (eT e0)]⟩)| .inr d=>(.exit 0,⟨[(0,sl 2 bz O,Eg),(1,.fn (.func 241) [] [.aq (.map 0)],Eg),(7,Lv O,Eg),(8,Iv d,Eg),(9,.bool Eg,Eg)],[.map (eT e0)]⟩)
theorem jpc (O:ak bD)(e0:List (aj×Int))(V:Int)(r)(h:QL O e0 V=Eh r):js pr qB (QM O e0) (QN O e0) V r:=by
 unfold QL at h
 repeat' first|(replace h:=qd h;obtain⟨d,g,h⟩:=h;with_reducible first|replace g:=j1n g|skip)|(replace h:=qe h;rcases h with⟨g,h⟩|⟨g,h⟩)
 all_goals (cases h<;>((first|refine qw ?_|refine jy ?_);simp only[go_sem,seval,qB,QM,jn,QN, *]<;>rfl))
theorem jqb (O:ak bD)(e0:List (aj×Int)){V d}(h:bu (QL O e0) V=Eh d):X pr (.loop qB) (QM O e0 V)=Eh (QN O e0 d):=zq (jpc O e0) h
def Jc (O:ak bD)(e0:List (aj×Int)):Option Int:=
 qc (bu (QL O e0) 0) fun d19=>match d19 with
  | .inl d21=>
   Eh d21
  | .inr d22=>
   Eh (-1)
theorem jyw {O e0 r}(h:Jc O e0=Eh r):ai pr (X pr) 202 [sl 2 bz O,.fn (.func 241) [] [.aq (.map 0)]] [.map (eT e0)]=Eh (Iv r,Eg,[.map (eT e0)]):=by
 unfold Jc at h;rw[qh (show pr.bn 202=Eh lD from rfl) (by simp)]
 repeat' first|(replace h:=qd h;obtain⟨d,g,h⟩:=h;with_reducible first|(replace g:=jqb O e0 g;rcases d with d|d<;>dsimp only[QM,QN,zp]at g h)|skip)|(replace h:=qe h;rcases h with⟨g,h⟩|⟨g,h⟩)
 all_goals (cases h<;>(simp only[go_sem,seval,lD, *]<;>rfl))
def Jb (O:ak bD)(e0:List (aj×Int)):Option Bool:=
 qc (Jc O e0) fun v1=>
 Eh (decide (0<=v1))
theorem jz3 {O e0 r}(h:Jb O e0=Eh r):ai pr (X pr) 136 [sl 2 bz O,.fn (.func 241) [] [.aq (.map 0)]] [.map (eT e0)]=Eh (.bool r,Eg,[.map (eT e0)]):=by
 unfold Jb at h;obtain⟨v1,I,h⟩:=qd h;have iY:ai pr (X pr) 202 [sl 2 bz O,.fn (.func 241) [] [.aq (.map 0)]] [.map (eT e0)]=Eh (Iv v1,Eg,[.map (eT e0)]):=jyw I;have Q:decide (0<=v1)=r:=Eh.inj h;subst Q;rw[qh (show pr.bn 136=Eh ox from rfl) (by simp)];simp only[go_sem,seval,ox,iY]<;>rfl
def f68 (O:ji):Option Bool:=
 Eh O.held
theorem W68 (hp:qi){O r}(h:f68 O=Eh r):ai pr (X pr) 68 [aL O] hp=Eh (.bool r,Eg,hp):=by
 unfold f68 at h;have Q:O.held=r:=Eh.inj h;subst Q;rw[qh (show pr.bn 68=Eh XB from rfl) (by simp)];simp only[go_sem,seval,XB]<;>rfl
def Fv (O:ak ji)(V:(ak ji)×Int×Bool):Option (((ak ji)×Int×Bool)⊕(((ak ji)×Bool×Int))):=
 cond (decide (V.2.1<((O.getD []).length:Int)))
  (qc (qo (O.getD []) V.2.1) fun v20=>
  qc (f68 v20) fun v22=>
  cond v22
   (cond V.2.2
    (qc (bB V.1 [v20]) fun v26=>
    Eh (.inl (v26,qf .i64 (V.2.1+1),E8)))
    (cond V.1.isNone
     (qc (bB V.1 [v20]) fun et=>
     Eh (.inl (et,qf .i64 (V.2.1+1),E8)))
     (En)))
   (Eh (.inl (V.1,qf .i64 (V.2.1+1),V.2.2))))
  (Eh (.inr (V.1,V.2.2,V.2.1)))
def QO (O:ak ji)(V:(ak ji)×Int×Bool):bj:=⟨[(1,.fn (.func 68) [] [],Eg),(5,sl 5 jd V.1,V.2.2),(8,sl 5 jd O,Eg),(9,Lv O,Eg),(10,Iv V.2.1,Eg)],[]⟩
def QP (O:ak ji)(d:((ak ji)×Bool×Int)):jc×bj:=(.exit 0,⟨[(1,.fn (.func 68) [] [],Eg),(5,sl 5 jd d.1,d.2.1),(8,sl 5 jd O,Eg),(9,Lv O,Eg),(10,Iv d.2.2,Eg),(11,.bool Eg,Eg)],[]⟩)
theorem jyv (O:ak ji)(V:(ak ji)×Int×Bool)(r)(h:Fv O V=Eh r):js pr QQ (QO O) (QP O) V r:=by
 unfold Fv at h
 repeat' first|(replace h:=qd h;obtain⟨d,g,h⟩:=h;with_reducible first|replace g:=W68 [] g|replace g:=T1 g|skip)|(replace h:=qe h;rcases h with⟨g,h⟩|⟨g,h⟩)
 all_goals (cases h<;>((first|refine qw ?_|refine jy ?_);simp only[go_sem,seval,QQ,QO,jn,QP, *]<;>rfl))
theorem jxy (O:ak ji){V d}(h:bu (Fv O) V=Eh d):X pr (.loop QQ) (QO O V)=Eh (QP O d):=zq (jyv O) h
def f67 (O:ak ji):Option ((ak ji)×Bool):=
 qc (bu (Fv O) (En,0,Eg)) fun d31=>
 Eh (d31.1,d31.2.1)
theorem W67 {O r}(h:f67 O=Eh r):ae pr (X pr) 67 [sl 5 jd O,.fn (.func 68) [] []]=Eh (sl 5 jd r.1,r.2):=by
 unfold f67 at h;refine yf XD ?_
 repeat' first|(replace h:=qd h;obtain⟨d,g,h⟩:=h;with_reducible first|(replace g:=jxy O g;dsimp only[QO,QP,zp]at g h)|skip)|(replace h:=qe h;rcases h with⟨g,h⟩|⟨g,h⟩)
 all_goals (cases h<;>(simp only[go_sem,seval,XD, *];exact⟨_,rfl⟩))
end Go.Z
namespace Go.Z
open Go Go.Abs Go.W
def mX:aQ->aQ
 | .seq a _=>a|x=>x
def iB:aQ->aQ
 | .seq _ b=>b|x=>x
def Es:aQ->aQ
 | .block _ b=>b|x=>x
def QR:aQ->aQ
 | .rangeFunc _ _ a _=>a|x=>x
def KF:aQ->aQ
 | .rangeFunc _ _ _ b=>b|x=>x
theorem pj {n v h t}(hn:h.length=n)(hv:Abs.below n v=E8)(hb:qr n h=E8):qp n v (h++t)=h:=by
 have ht:(h++t).take n=h:=by rw[<-hn,List.take_left'];rfl
 unfold qp;rw[ht,hv,hb]
 cases hc:Nat.ble (h++t).length n with
 |true=>
  have:=Nat.le_of_ble_eq_true hc;rw[List.length_append,hn]at this;have:t=[]:=List.eq_nil_of_length_eq_zero (by omega);subst this;simp
 |false=>rfl
theorem jw {n v h}(hn:h.length=n):qp n v h=h:=by
 unfold qp;rw[G0 (by omega)];rfl
section
variable {σ:Type}(r:av)(u:bp)(H:σ->qi)(step:σ->ji->Int->Option σ)
def pG (x:Int×σ):Option ((Int×σ)⊕(Int×σ)):=
 cond (decide (x.1<((u.uses.getD []).length:Int)))
  (qc (qo (u.uses.getD []) x.1) fun s=>qc (f132 r s.k) fun v=>qc (qo (r.ay.getD []) v) fun l=>qc (step x.2 l s.n) fun y=>Eh (.inl (qf .i64 (x.1+1),y)))
  (Eh (.inr x))
def GJ (x:Int×σ):bj:=⟨[(0,.fn (.yield 1) [] [],Eg),(2,.aq (aR r),Eg),(7,sl 2 bz u.uses,Eg),(8,Lv u.uses,Eg),(9,Iv x.1,Eg)],H x.2⟩
def QS (x:Int×σ):jc×bj:=(.exit 0,⟨[(0,.fn (.yield 1) [] [],Eg),(2,.aq (aR r),Eg),(7,sl 2 bz u.uses,Eg),(8,Lv u.uses,Eg),(9,Iv x.1,Eg),(10,.bool Eg,Eg)],H x.2⟩)
theorem zau (hy:∀x l n y,step x l n=Eh y->kQ (X pr) 1 [aL l,Iv n] (H x)=Eh (.bool E8,H y))(hl:∀x,(H x).length=2)(x:Int×σ)(q)(h:pG r u step x=Eh q):js pr KG (GJ r u H) (QS r u H) x q:=by
 unfold pG at h;rcases qe h with⟨Y,h⟩|⟨Y,h⟩
 .obtain⟨s,I,h⟩:=qd h;obtain⟨v,h3,h⟩:=qd h;obtain⟨l,h4,h⟩:=qd h;obtain⟨y,h5,h⟩:=qd h;cases h;have g:=hy _ _ _ _ h5;have w:=Cm h3;exact z7 (bN:=GJ r u H (qf .i64 (x.1+1),y)) (by simp only[go_sem,seval,KG,GJ,Y,jg I,w,jg h4,g]<;>rfl) (yv (by show(H y).length<=(H x.2).length;rw[hl,hl];exact G4 _))
 .cases h;exact qw (by simp only[go_sem,seval,KG,GJ,Y,QS]<;>rfl)
theorem jvx {r:av}{u:bp}{H:σ->qi}{step:σ->ji->Int->Option σ}(hy:∀x l n y,step x l n=Eh y->kQ (X pr) 1 [aL l,Iv n] (H x)=Eh (.bool E8,H y))(hl:∀x,(H x).length=2){x0 d}(h:bu (pG r u step) (0,x0)=Eh d):ai pr (X pr) 240 [.fn (.yield 1) [] [],.aq (aU u),.aq (aR r)] (H x0)=Eh (.bq [],Eg,H d.2):=by
 have Y:X pr (.loop KG) (GJ r u H (0,x0))=Eh (QS r u H d):=nC (zau r u H step hy hl) (fun d=>by intro hh;cases hh) h;rw[qh (show pr.bn 240=Eh Et from rfl) (by simp)];simp only[GJ,QS]at Y;simp only[go_sem,seval,Et,Y]<;>rfl
end
def xk:aQ:=Es (iB (mX (iB (iB jQ.body))))
def tK:aQ:=QR xk
def rF:aQ:=KF xk
theorem jqc:xk=.rangeFunc (.tmp 9) [10,11] tK rF:=rfl
def mY (r:av)(u:bp):Env:=[(2,.aq (aR r),Eg),(3,.aq (aU u),Eg),(5,.ptr 0 0,Eg),(9,.fn (.func 240) [] [.aq (aU u),.aq (aR r)],Eg)]
def Eu (o:ak ji):qi:=[.cells [(sl 5 jd o,o.isSome)]]
def jR (r:av)(u:bp)(pd:Option jc)(o:ak ji):qi:=[.cells [(sl 5 jd o,o.isSome)],.loop ⟨mY r u,[10,11],tK,rF,pd⟩]
def XE (r:av)(u:bp)(l:ji)(n:Int):Env:=(([10,11][1]),Iv n,Eg)::(([10,11][0]),aL l,Eg)::mY r u
def QT (r:av)(u:bp)(l:ji)(n:Int):Env:=[(2,.aq (aR r),Eg),(3,.aq (aU u),Eg),(5,.ptr 0 0,Eg),(6,.aq (aL l),Eg)]
theorem zad {r u l n}:vz (fF (mY r u)) [10,11] [aL l,Iv n]=Eh (XE r u l n):=rfl
theorem jiu {r u l n H}:X pr tK ⟨XE r u l n,H⟩=Eh (.normal,⟨QT r u l n,H⟩):=by
 simp only[go_sem,seval,tK,QR,xk,Es,mX,iB,jQ,XE,mY,List.getElem_cons_zero,List.getElem_cons_succ]<;>rfl
def x9 (o:ak ji)(l:ji)(_:Int):Option (ak ji):=bB o [l]
theorem jli {r u l n pd o o'}(ho:x9 o l n=Eh o'):∃e t,X pr rF ⟨QT r u l n,jR r u pd o⟩=Eh (.normal,⟨e,jR r u pd o'++t⟩):=by
 unfold x9 at ho
 have G:o'.isSome=E8:=by
  cases o' with
  |some _=>rfl|none=>cases o<;>simp[bB,yB]at ho
 cases o with
 |none=>
  have ap:=fun(b:Nat) (h:qi) (bb:Bool)=>qxx (b:=b) (h:=h) (bb:=bb) ho rfl;simp only[go_sem,seval,rF,KF,xk,Es,mX,iB,jQ,QT,jR,ap,Option.isSome_none,G];exact⟨_,_,rfl⟩
 |some o=>
  have ap:=fun(b t:Nat) (h:qi) (bb:Bool)=>qz3 (b:=b) (t:=t) (h:=h) (bb:=bb) ho;simp only[go_sem,seval,rF,KF,xk,Es,mX,iB,jQ,QT,jR,ap,Option.isSome_some,G];exact⟨_,_,rfl⟩
theorem jey {r u pd o}:qr 2 (jR r u pd o)=E8:=by
 simp only[go_sem,seval,jR,qr,ze,zn,lU,mY]<;>rfl
theorem y75 {r u l n o o'}(ho:x9 o l n=Eh o'):kQ (X pr) 1 [aL l,Iv n] (jR r u En o)=Eh (.bool E8,jR r u En o'):=by
 have g:∀o pd t,zi (jR r u pd o++t) 1=Eh (.loop ⟨mY r u,[10,11],tK,rF,pd⟩):=fun _ _ _=>rfl;have g0:∀o pd,zi (jR r u pd o) 1=Eh (.loop ⟨mY r u,[10,11],tK,rF,pd⟩):=fun _ _=>rfl;have st:∀o pd tL t,(jR r u pd o++t).set 1 (.loop ⟨mY r u,[10,11],tK,rF,tL⟩)=jR r u tL o++t:=fun _ _ _ _=>rfl;have XF:∀o pd tL,(jR r u pd o).set 1 (.loop ⟨mY r u,[10,11],tK,rF,tL⟩)=jR r u tL o:=fun _ _ _=>rfl;have hl:∀o pd,(jR r u pd o).length=2:=fun _ _=>rfl;have ha:∀o pd v t,Abs.below 2 v=E8->qp 2 v (jR r u pd o++t)=jR r u pd o:=fun _ _ _ _ hv=>pj rfl hv jey;obtain⟨e,t,M⟩:=jli (r:=r) (u:=u) (n:=n) (pd:=Eh .normal) ho;unfold kQ;simp only[g0,zad,jiu,G1,cond_true,XF,hl,M,g,st];rw[ha _ _ _ _ rfl]
theorem jnl {r:av}{u:bp}{o:ak ji}{d}(h:bu (pG r u x9) (0,o)=Eh d):X pr xk ⟨mY r u,Eu o⟩=Eh (.normal,⟨mY r u,Eu d.2⟩):=by
 have Y:=jvx (H:=jR r u En) (fun x l n y G=>y75 G) (fun _=>rfl) h
 have hb:∀o,qr 1 (Eu o)=E8:=by
  intro o;simp only[go_sem,seval,Eu,qr,ze,zn]<;>rfl
 rw[jqc,MI];unfold lJ;have hn:(zu tK&&zu rF)=E8:=rfl;have he:qj (mY r u) (.tmp 9)=Eh (.fn (.func 240) [] [.aq (aU u),.aq (aR r)]):=rfl;have hl:∀o,(Eu o).length=1:=fun _=>rfl;have mC:∀o,Eu o++[.loop ⟨mY r u,[10,11],tK,rF,En⟩]=jR r u En o:=fun _=>rfl;have hg:∀o,zi (jR r u En o) 1=Eh (.loop ⟨mY r u,[10,11],tK,rF,En⟩):=fun _=>rfl;have ht:∀o,(jR r u En o).take 1=Eu o:=fun _=>rfl;simp only[hn,cond_true,he,hl,List.nil_append,List.cons_append,mC,Y,hg,ht,hb]
def zY:aQ:=Es (iB (mX (iB (iB lF.body))))
def tM:aQ:=QR zY
def tN:aQ:=KF zY
theorem jid:zY=.rangeFunc (.tmp 11) [12,13] tM tN:=rfl
def mZ (r:av)(u:bp):Env:=[(2,.aq (aR r),Eg),(3,.aq (aU u),Eg),(5,.aq (.map 0),Eg),(11,.fn (.func 240) [] [.aq (aU u),.aq (aR r)],Eg)]
def Ev (o:List (aj×Int)):qi:=[.map (eT o)]
def kM (r:av)(u:bp)(pd:Option jc)(o:List (aj×Int)):qi:=[.map (eT o),.loop ⟨mZ r u,[12,13],tM,tN,pd⟩]
def XG (r:av)(u:bp)(l:ji)(n:Int):Env:=(([12,13][1]),Iv n,Eg)::(([12,13][0]),aL l,Eg)::mZ r u
def XH (r:av)(u:bp)(l:ji)(n:Int):Env:=[(2,.aq (aR r),Eg),(3,.aq (aU u),Eg),(5,.aq (.map 0),Eg),(6,.aq (aL l),Eg),(7,Iv n,Eg)]
theorem j0m {r u l n}:vz (fF (mZ r u)) [12,13] [aL l,Iv n]=Eh (XG r u l n):=rfl
theorem jfx {r u l n H}:X pr tM ⟨XG r u l n,H⟩=Eh (.normal,⟨XH r u l n,H⟩):=by
 simp only[go_sem,seval,tM,QR,zY,Es,mX,iB,lF,XG,mZ,List.getElem_cons_zero,List.getElem_cons_succ]<;>rfl
def wo (o:List (aj×Int))(l:ji)(n:Int):Option (List (aj×Int)):=Nb o l.kind (qf .i64 (nz o l.kind+n))
theorem jhs {r u l n pd o o'}(ho:wo o l n=Eh o'):∃e t,X pr tN ⟨XH r u l n,kM r u pd o⟩=Eh (.normal,⟨e,kM r u pd o'++t⟩):=by
 unfold wo at ho;simp only[go_sem,seval,tN,KF,zY,Es,mX,iB,lF,XH,kM,jm7,jt0 ho];exact⟨_,_,rfl⟩
theorem jch {r u pd o}:qr 2 (kM r u pd o)=E8:=by
 simp only[go_sem,seval,kM,qr,ze,zn,lU,mZ]<;>rfl
theorem j9u {r u l n o o'}(ho:wo o l n=Eh o'):kQ (X pr) 1 [aL l,Iv n] (kM r u En o)=Eh (.bool E8,kM r u En o'):=by
 have g:∀o pd t,zi (kM r u pd o++t) 1=Eh (.loop ⟨mZ r u,[12,13],tM,tN,pd⟩):=fun _ _ _=>rfl;have g0:∀o pd,zi (kM r u pd o) 1=Eh (.loop ⟨mZ r u,[12,13],tM,tN,pd⟩):=fun _ _=>rfl;have st:∀o pd tL t,(kM r u pd o++t).set 1 (.loop ⟨mZ r u,[12,13],tM,tN,tL⟩)=kM r u tL o++t:=fun _ _ _ _=>rfl;have XF:∀o pd tL,(kM r u pd o).set 1 (.loop ⟨mZ r u,[12,13],tM,tN,tL⟩)=kM r u tL o:=fun _ _ _=>rfl;have hl:∀o pd,(kM r u pd o).length=2:=fun _ _=>rfl;have ha:∀o pd v t,Abs.below 2 v=E8->qp 2 v (kM r u pd o++t)=kM r u pd o:=fun _ _ _ _ hv=>pj rfl hv jch;obtain⟨e,t,M⟩:=jhs (r:=r) (u:=u) (n:=n) (pd:=Eh .normal) ho;unfold kQ;simp only[g0,j0m,jfx,G1,cond_true,XF,hl,M,g,st];rw[ha _ _ _ _ rfl]
theorem jl3 {r:av}{u:bp}{o:List (aj×Int)}{d}(h:bu (pG r u wo) (0,o)=Eh d):X pr zY ⟨mZ r u,Ev o⟩=Eh (.normal,⟨mZ r u,Ev d.2⟩):=by
 have Y:=jvx (H:=kM r u En) (fun x l n y G=>j9u G) (fun _=>rfl) h
 have hb:∀o,qr 1 (Ev o)=E8:=by
  intro o;simp only[go_sem,seval,Ev,qr,ze,zn]<;>rfl
 rw[jid,MI];unfold lJ;have hn:(zu tM&&zu tN)=E8:=rfl;have he:qj (mZ r u) (.tmp 11)=Eh (.fn (.func 240) [] [.aq (aU u),.aq (aR r)]):=rfl;have hl:∀o,(Ev o).length=1:=fun _=>rfl;have mC:∀o,Ev o++[.loop ⟨mZ r u,[12,13],tM,tN,En⟩]=kM r u En o:=fun _=>rfl;have hg:∀o,zi (kM r u En o) 1=Eh (.loop ⟨mZ r u,[12,13],tM,tN,En⟩):=fun _=>rfl;have ht:∀o,(kM r u En o).take 1=Ev o:=fun _=>rfl;simp only[hn,cond_true,he,hl,List.nil_append,List.cons_append,mC,Y,hg,ht,hb]
end Go.Z
namespace Go.Z
open Go Go.Abs Go.W
theorem jsn {hp r u}:ai pr (X pr) 219 [aR r,aU u] hp=Eh (.fn (.func 240) [] [.aq (aU u),.aq (aR r)],Eg,hp):=by
 rw[qh (show pr.bn 219=Eh Ew from rfl) (by simp)];simp only[go_sem,seval,Ew]<;>rfl
def f220 (r:av)(u:bp):Option Bool:=
 qc (bu (pG r u wo) (0,[])) fun d=>qc (f123 r u) fun doc=>qc (Jb doc.aX d.2) fun b=>Eh (!b)
def jeq:aQ:=mX lF.body
def jfj:aQ:=mX (iB lF.body)
def je7:aQ:=mX (mX (iB (iB lF.body)))
def jhj:aQ:=iB (iB (iB lF.body))
theorem zbb {r u q}(h:f220 r u=Eh q):ae pr (X pr) 220 [aR r,aU u]=Eh (.bool q,Eg):=by
 unfold f220 at h;obtain⟨d,Y,h⟩:=qd h;obtain⟨doc,I,h⟩:=qd h;obtain⟨b,h3,h⟩:=qd h;cases h;have M:X pr zY ⟨mZ r u,[.map []]⟩=Eh (.normal,⟨mZ r u,[.map (eT d.2)]⟩):=jl3 Y;have w1:=jsn (hp:=[.map []]) (r:=r) (u:=u);have ha:qp 1 (.fn (.func 240) [] [.aq (aU u),.aq (aR r)]) ([.map []]:qi)=[.map []]:=jw rfl;have w2:ae pr (X pr) 123 [aR r,aU u]=Eh (aD doc,Eg):=PE I;have w3:=jz3 h3;have hb:qp 1 (.bool b) ([.map (eT d.2)]:qi)=[.map (eT d.2)]:=jw rfl
 have this:∃hh,ai pr (X pr) 220 [aR r,aU u] []=Eh (.bool (!b),Eg,hh):=by
  rw[qh (show pr.bn 220=Eh ⟨27,.seq jeq (.seq jfj (.seq (.seq je7 (.block 0 zY)) jhj)),[.tmp 4]⟩from rfl) (by simp)];simp only[mZ]at M;simp only[go_sem,seval,jeq,jfj,je7,jhj,mX,iB,lF,w1,ha,w2,w3,hb,M];exact⟨_,rfl⟩
 obtain⟨hh,this⟩:=this;exact jo rfl this (by first|rfl|simp only[go_sem,seval]) (by first|rfl|simp only[go_sem,seval])
def f168 (r:av)(u:bp):Option Int:=
 qc (bu (pG r u x9) (0,En)) fun d=>qc (f18 u.ax 21) fun e1=>qc (f162 r u) fun lt=>qc (f18 (!decide (u.version=lt)) 32) fun e2=>qc (f220 r u) fun c=>qc (f18 (!c) 20) fun e3=>
 qc (f54 r u) fun m=>qc (f18 (decide (0<((m.1.getD []).length:Int))) 31) fun e4=>qc (f67 d.2) fun hd=>qc (f18 (decide (0<((hd.1.getD []).length:Int))) 34) fun e5=>f17 (Eh [e1,e2,e3,e4,e5])
def jmq:aQ:=mX jQ.body
def jmp:aQ:=mX (iB jQ.body)
def jm3:aQ:=mX (mX (iB (iB jQ.body)))
def jms:aQ:=iB (iB (iB jQ.body))
theorem j9i {r u q}(h:f168 r u=Eh q):ae pr (X pr) 168 [aR r,aU u]=Eh (Iv q,Eg):=by
 unfold f168 at h;obtain⟨d,Y,h⟩:=qd h;obtain⟨e1,g1,h⟩:=qd h;obtain⟨lt,I,h⟩:=qd h;obtain⟨e2,g2,h⟩:=qd h;obtain⟨c,h3,h⟩:=qd h;obtain⟨e3,g3,h⟩:=qd h;obtain⟨m,h4,h⟩:=qd h;obtain⟨e4,g4,h⟩:=qd h;obtain⟨hd,h5,h⟩:=qd h;obtain⟨e5,g5,h⟩:=qd h;have M:X pr xk ⟨mY r u,[.cells [(Nl,Eg)]]⟩=Eh (.normal,⟨mY r u,[.cells [(sl 5 jd d.2,d.2.isSome)]]⟩):=jnl Y;have w1:=jsn (hp:=[.cells [(Nl,Eg)]]) (r:=r) (u:=u);have ha:qp 1 (.fn (.func 240) [] [.aq (aU u),.aq (aR r)]) ([.cells [(Nl,Eg)]]:qi)=[.cells [(Nl,Eg)]]:=jw rfl;have k1:=dp g1;have w2:ae pr (X pr) 162 [aR r,aU u]=Eh (Iv lt,Eg):=jsd I;have k2:=dp g2;have w3:=zbb h3;have k3:=dp g3;have w4:ae pr (X pr) 54 [aR r,aU u]=Eh (sl 1 jf m.1,m.2):=W54 h4;have k4:=dp g4;have w5:=W67 h5;have k5:=dp g5;have k6:ae pr (X pr) 17 [.list Eg 1 [Iv e1,Iv e2,Iv e3,Iv e4,Iv e5]]=Eh (Iv q,Eg):=fC h
 have this:∃hh,ai pr (X pr) 168 [aR r,aU u] []=Eh (Iv q,Eg,hh):=by
  rw[qh (show pr.bn 168=Eh ⟨44,.seq jmq (.seq jmp (.seq (.seq jm3 (.block 0 xk)) jms)),[.tmp 4]⟩from rfl) (by simp)];simp only[mY]at M;simp only[go_sem,seval,jmq,jmp,jm3,jms,mX,iB,jQ,w1,ha,k1,w2,k2,w3,k3,w4,k4,w5,k5,k6,M];exact⟨_,rfl⟩
 obtain⟨hh,this⟩:=this;exact jo rfl this (by first|rfl|simp only[go_sem,seval]) (by first|rfl|simp only[go_sem,seval])
end Go.Z
namespace Go.Z
open Go Go.Abs Go.W
def f84 (J:GEv)(bd:Int)(aY:ak ji)(aW:ak bm)(aI:ak bp):Option (Int×(ak bp)):=
 qc (qo (J.names.getD []) 0) fun v1=>
 qc (f49 (⟨bd,aY,aW,aI⟩) v1) fun v3=>
 qc (qo (aI.getD []) v3) fun v5=>
 qc (f168 (⟨bd,aY,aW,aI⟩) v5) fun v7=>
 cond (decide (v7=0))
  (qc (Uo aI v3) fun v10=>
  Eh (0,v10))
  (Eh (v7,aI))
theorem W84 {J bd aY aW aI x1 x2 x3 r}(h:f84 J bd aY aW aI=Eh r):ai pr (X pr) 84 [.ptr 0 0,aE J] [kR bd aY aW aI,x1,x2,x3]=Eh (Iv r.1,Eg,[kR bd aY aW r.2,x1,x2,x3]):=by
 unfold f84 at h;rw[qh (show pr.bn 84=Eh XI from rfl) (by simp)]
 repeat' first|(replace h:=qd h;obtain⟨d,g,h⟩:=h;with_reducible first|replace g:=tn g|replace g:=j9i g|replace g:=jlw g|skip)|(replace h:=qe h;rcases h with⟨g,h⟩|⟨g,h⟩)
 all_goals (cases h<;>(simp only[go_sem,seval,XI,jn, *]<;>rfl))
end Go.Z
namespace Go.Z
open Go Go.Abs Go.W
def Bw (O:av)(J:GEv):Option (Option (Nat)⊕(Nat⊕Nat)):=
 cond (decide (0<(j0 J.kind).length))
  (cond (decide (((ql (j0 J.kind) 0).1:Int)=45))
   (Eh (.inl (Eh (0+(ql (j0 J.kind) 0).2))))
   (qc (qo (J.names.getD []) (0:Int)) fun KD=>
   qc (f70 O ((ql (j0 J.kind) 0).1:Int) KD) fun zW=>
   cond zW
    (Eh (.inl (Eh (0+(ql (j0 J.kind) 0).2))))
    (Eh (.inr (.inl (0+(ql (j0 J.kind) 0).2))))))
  (Eh (.inr (.inr 0)))
def wD (O:av)(J:GEv)(V:Nat):Option (Option (Nat)⊕(Nat⊕Nat)):=
 cond (decide (V<(j0 J.kind).length))
  (cond (decide (((ql (j0 J.kind) V).1:Int)=45))
   (Eh (.inl (Eh (V+(ql (j0 J.kind) V).2))))
   (qc (qo (J.names.getD []) (V:Int)) fun rn=>
   qc (f70 O ((ql (j0 J.kind) V).1:Int) rn) fun D9=>
   cond D9
    (Eh (.inl (Eh (V+(ql (j0 J.kind) V).2))))
    (Eh (.inr (.inl (V+(ql (j0 J.kind) V).2))))))
  (Eh (.inr (.inr V)))
def FB (O:av)(J:GEv):Option (Nat)->Option (Option (Nat)⊕(Nat⊕Nat))
 |none=>Bw O J|some x=>wD O J x
def XJ (O:av)(J:GEv)(V:Nat):bj:=⟨[(2,.ptr 0 0,Eg),(3,.aq (aE J),Eg),(4,.ptr 1 0,Eg),(6,.aq (.agg [.str (j0 J.kind),Iv (lO J.kind),mI J.kind]),Eg),(24,.ptr 3 0,Eg),(41,.bool Eg,Eg)],[.cells [(Iv O.day,Eg),(sl 5 jd O.ay,Eg),(sl 4 qz O.ah,Eg),(sl 8 bC O.units,Eg)],kZ,.map y9,.iter (j0 J.kind) V]⟩
def GK (O:av)(J:GEv):Option (Nat)->bj
 |none=>⟨[(2,.ptr 0 0,Eg),(3,.aq (aE J),Eg),(4,.ptr 1 0,Eg),(6,.aq (.agg [.str (j0 J.kind),Iv (lO J.kind),mI J.kind]),Eg),(24,.ptr 3 0,Eg)],[.cells [(Iv O.day,Eg),(sl 5 jd O.ay,Eg),(sl 4 qz O.ah,Eg),(sl 8 bC O.units,Eg)],kZ,.map y9,.iter (j0 J.kind) 0]⟩|some x=>XJ O J x
def GL (O:av)(J:GEv):Nat⊕Nat->jc×bj
 | .inl d=>(.ret,⟨[(4,.ptr 1 0,Eg),(5,Iv 10,Eg)],[.cells [(Iv O.day,Eg),(sl 5 jd O.ay,Eg),(sl 4 qz O.ah,Eg),(sl 8 bC O.units,Eg)],kZ,.map y9,.iter (j0 J.kind) d]⟩)| .inr d=>(.exit 0,⟨[(2,.ptr 0 0,Eg),(3,.aq (aE J),Eg),(4,.ptr 1 0,Eg),(6,.aq (.agg [.str (j0 J.kind),Iv (lO J.kind),mI J.kind]),Eg),(24,.ptr 3 0,Eg),(25,.bq [.bool Eg],Eg),(26,.bool Eg,Eg)],[.cells [(Iv O.day,Eg),(sl 5 jd O.ay,Eg),(sl 4 qz O.ah,Eg),(sl 8 bC O.units,Eg)],kZ,.map y9,.iter (j0 J.kind) d]⟩)
theorem ju6 (O:av)(J:GEv)(r)(h:Bw O J=Eh r):js pr xl (GK O J) (GL O J) En r:=by
 unfold Bw at h
 repeat' first|(replace h:=qd h;obtain⟨d,g,h⟩:=h;with_reducible first|replace g:=W70 g|skip)|(replace h:=qe h;rcases h with⟨g,h⟩|⟨g,h⟩)
 all_goals (cases h<;>((first|refine qw ?_|refine jy ?_);simp only[go_sem,seval,xl,GK,XJ,xY,jn,GL, *]<;>rfl))
theorem jtu (O:av)(J:GEv)(V:Nat)(r)(h:wD O J V=Eh r):js pr xl (GK O J) (GL O J) (Eh V) r:=by
 unfold wD at h
 repeat' first|(replace h:=qd h;obtain⟨d,g,h⟩:=h;with_reducible first|replace g:=W70 g|skip)|(replace h:=qe h;rcases h with⟨g,h⟩|⟨g,h⟩)
 all_goals (cases h<;>((first|refine qw ?_|refine jy ?_);simp only[go_sem,seval,xl,GK,XJ,xY,jn,GL, *]<;>rfl))
theorem jz5 (O:av)(J:GEv):∀(x:Option (Nat)) (r) (h:FB O J x=Eh r),js pr xl (GK O J) (GL O J) x r
 |none,r,h=>ju6 O J r h|some x,r,h=>jtu O J x r h
theorem jm8 (O:av)(J:GEv){V d}(h:bu (FB O J) V=Eh d):X pr (.loop xl) (GK O J V)=Eh (GL O J d):=zq (jz5 O J) h
def fB (k:Nat)(O:av)(J:GEv):Option (Int×av):=
 bif E9 k 72 then qc (f72 J O.day O.ay O.ah O.units) fun v=>Eh (v.1,{ O with ay:=v.2.1 })else
 bif E9 k 73 then qc (f73 J O.day O.ay O.ah O.units) fun v=>Eh (v.1,{ O with ah:=v.2.1 })else
 bif E9 k 74 then qc (f74 J O.day O.ay O.ah O.units) fun v=>Eh (v.1,{ O with ah:=v.2 })else
 bif E9 k 75 then qc (f75 J O.day O.ay O.ah O.units) fun v=>Eh (v.1,{ O with ah:=v.2 })else
 bif E9 k 76 then qc (f76 J O.day O.ay O.ah O.units) fun v=>Eh (v.1,{ O with ah:=v.2 })else
 bif E9 k 77 then qc (f77 J O.day O.ay O.ah O.units) fun v=>Eh (v.1,{ O with units:=v.2.1 })else
 bif E9 k 79 then qc (f79 J O.day O.ay O.ah O.units) fun v=>Eh (v.1,{ O with units:=v.2 })else
 bif E9 k 80 then qc (f80 J O.day O.ay O.ah O.units) fun v=>Eh (v.1,{ O with units:=v.2 })else
 bif E9 k 81 then qc (f81 J O.day O.ay O.ah O.units) fun v=>Eh (v.1,{ O with units:=v.2 })else
 bif E9 k 82 then qc (f82 J O.day O.ay O.ah O.units) fun v=>Eh (v.1,{ O with ay:=v.2 })else
 bif E9 k 83 then qc (f83 J O.day O.ay O.ah O.units) fun v=>Eh (v.1,{ O with ay:=v.2 })else
 bif E9 k 84 then qc (f84 J O.day O.ay O.ah O.units) fun v=>Eh (v.1,{ O with units:=v.2 })else
 bif E9 k 85 then qc (f85 J O.day O.ay O.ah O.units) fun v=>Eh (v.1,{ O with units:=v.2 })else
 bif E9 k 78 then qc (f78 J O.day O.ay O.ah O.units) fun v=>Eh (v.1,{ O with ay:=v.2.1,units:=v.2.2 })else En
theorem jh7 {k O J x1 x2 x3 v}(h:fB k O J=Eh v):
  (∃w1 w2 w3:Bool,ai pr (X pr) k [.ptr 0 0,aE J] [.cells [(Iv O.day,Eg),(sl 5 jd O.ay,Eg),(sl 4 qz O.ah,Eg),(sl 8 bC O.units,Eg)],x1,x2,x3]=Eh (Iv v.1,Eg,[.cells [(Iv v.2.day,Eg),(sl 5 jd v.2.ay,w1),(sl 4 qz v.2.ah,w2),(sl 8 bC v.2.units,w3)],x1,x2,x3])/\v.2.day=O.day) \/
  (v.1=0/\v.2.day=O.day/\∃(n:Nat) (b:bG) (cs:List (AVal×Bool)),ai pr (X pr) k [.ptr 0 0,aE J] [.cells [(Iv O.day,Eg),(sl 5 jd O.ay,Eg),(sl 4 qz O.ah,Eg),(sl 8 bC O.units,Eg)],x1,x2,x3]=Eh (Iv 0,Eg,[.cells [(Iv v.2.day,Eg),(sl 5 jd v.2.ay,Eg),(sl 4 qz v.2.ah,Eg),(.ms 5 0 n,Eg)],x1,x2,x3,b,.cells cs])/\cs.map (·.1)=zh bC (v.2.units.getD [])/\n=(v.2.units.getD []).length/\0<n/\v.2.units.isSome=E8):=by
 unfold fB at h;rw[E4]at h;split at h
 .rename_i hk;rw[E3 hk];obtain⟨y,hy,h⟩:=qd h;cases h;exact .inl ⟨y.2.2,Eg,Eg,W72 hy,rfl⟩
 rw[E4]at h;split at h
 .rename_i hk;rw[E3 hk];obtain⟨y,hy,h⟩:=qd h;cases h;exact .inl ⟨Eg,y.2.2,Eg,W73 hy,rfl⟩
 rw[E4]at h;split at h
 .rename_i hk;rw[E3 hk];obtain⟨y,hy,h⟩:=qd h;cases h;exact .inl ⟨Eg,Eg,Eg,W74 hy,rfl⟩
 rw[E4]at h;split at h
 .rename_i hk;rw[E3 hk];obtain⟨y,hy,h⟩:=qd h;cases h;exact .inl ⟨Eg,Eg,Eg,W75 hy,rfl⟩
 rw[E4]at h;split at h
 .rename_i hk;rw[E3 hk];obtain⟨y,hy,h⟩:=qd h;cases h;exact .inl ⟨Eg,Eg,Eg,W76 hy,rfl⟩
 rw[E4]at h;split at h
 .rename_i hk;rw[E3 hk];obtain⟨y,hy,h⟩:=qd h;cases h;exact .inl ⟨Eg,Eg,y.2.2,W77 hy,rfl⟩
 rw[E4]at h;split at h
 .rename_i hk;rw[E3 hk];obtain⟨y,hy,h⟩:=qd h;cases h;exact .inl ⟨Eg,Eg,Eg,W79 hy,rfl⟩
 rw[E4]at h;split at h
 .rename_i hk;rw[E3 hk];obtain⟨y,hy,h⟩:=qd h;cases h;exact .inl ⟨Eg,Eg,Eg,W80 hy,rfl⟩
 rw[E4]at h;split at h
 .rename_i hk;rw[E3 hk];obtain⟨y,hy,h⟩:=qd h;cases h;exact .inl ⟨Eg,Eg,Eg,W81 hy,rfl⟩
 rw[E4]at h;split at h
 .rename_i hk;rw[E3 hk];obtain⟨y,hy,h⟩:=qd h;cases h;exact .inl ⟨Eg,Eg,Eg,W82 hy,rfl⟩
 rw[E4]at h;split at h
 .rename_i hk;rw[E3 hk];obtain⟨y,hy,h⟩:=qd h;cases h;exact .inl ⟨Eg,Eg,Eg,W83 hy,rfl⟩
 rw[E4]at h;split at h
 .rename_i hk;rw[E3 hk];obtain⟨y,hy,h⟩:=qd h;cases h;exact .inl ⟨Eg,Eg,Eg,W84 hy,rfl⟩
 rw[E4]at h;split at h
 .rename_i hk;rw[E3 hk];obtain⟨y,hy,h⟩:=qd h;cases h;exact .inl ⟨Eg,Eg,Eg,W85 hy,rfl⟩
 rw[E4]at h;split at h
 .rename_i hk;rw[E3 hk];obtain⟨y,hy,h⟩:=qd h;cases h;rcases W78 (x1:=x1) (x2:=x2) (x3:=x3) hy with⟨Y,I,h3⟩|⟨Y,n,b,cs,I,h3,h4,h5⟩
  .refine .inl ⟨Eg,Eg,Eg,?_,rfl⟩;rcases y with⟨y1,y2⟩;cases I;exact h3
  .refine .inr ⟨Y,rfl,n,b,cs,I,h3,h4,h5,?_⟩;show y.2.2.isSome=E8
   cases hu:y.2.2 with
   |some _=>rfl|none=>rw[hu]at h4;simp at h4;omega
 .cases h
def Jr (x:aj):Nat:=match pE x with
 |some f=>f.2.2.2|none=>0
theorem jk5 (x:aj):mI x=fnv (Jr x):=by
 unfold mI Jr;cases pE x<;>rfl
theorem jmc {k O J v}(h:fB k O J=Eh v):fnv k=.fn (.func k) [] []:=by
 cases hk:E9 k 0 with
 |false=>simp only[fnv,hk,cond_false]|true=>rw[E3 hk]at h;cases h
def f95 (O:av)(J:GEv):Option (av×Int):=
 qc (qo (J.values.getD []) 0) fun v1=>
 cond (decide (v1<O.day))
  (Eh (⟨0,En,En,En⟩,20))
  (qc (bu (FB O J) En) fun d48=>match d48 with
   | .inl d50=>
    Eh (⟨0,En,En,En⟩,10)
   | .inr d51=>
    qc (fB (Jr J.kind) O J) fun v=>
    cond (decide (v.1=0))
     (Eh ({ v.2 with day:=v1 },0))
     (Eh (⟨0,En,En,En⟩,v.1)))
theorem N9 {O J r}(h:f95 O J=Eh r):ae pr (X pr) 95 [aR O,aE J]=Eh (.bq [aR r.1,Iv r.2],Eg):=by
 unfold f95 at h;obtain⟨v1,I,h⟩:=qd h;rcases qe h with⟨h3,h⟩|⟨h3,h⟩
 .have Q:(⟨0,En,En,En⟩,20)=r:=Eh.inj h;subst Q
  have this:∃hh,ai pr (X pr) 95 [aR O,aE J] []=Eh (.bq [aZ,Iv 20],Eg,hh):=by
   rw[qh (show pr.bn 95=Eh tO from rfl) (by simp)];simp only[go_sem,seval,tO,jg I,h3];exact⟨_,rfl⟩
  obtain⟨hh,this⟩:=this;exact jo rfl this (by first|rfl|simp only[go_sem,seval]) (by first|rfl|simp only[go_sem,seval])
 .obtain⟨d48,h49,h⟩:=qd h;rcases d48 with d50|d51
  .have qC:X pr (.loop xl) ⟨[(2,.ptr 0 0,Eg),(3,.aq (aE J),Eg),(4,.ptr 1 0,Eg),(6,.aq (.agg [.str (j0 J.kind),Iv (lO J.kind),mI J.kind]),Eg),(24,.ptr 3 0,Eg)],[kR O.day O.ay O.ah O.units,kZ,.map y9,.iter (j0 J.kind) 0]⟩=Eh (.ret,⟨[(4,.ptr 1 0,Eg),(5,Iv 10,Eg)],[kR O.day O.ay O.ah O.units,kZ,.map y9,.iter (j0 J.kind) d50]⟩):=jm8 O J h49;have Q:(⟨0,En,En,En⟩,10)=r:=Eh.inj h;subst Q
   have this:∃hh,ai pr (X pr) 95 [aR O,aE J] []=Eh (.bq [aZ,Iv 10],Eg,hh):=by
    rw[qh (show pr.bn 95=Eh tO from rfl) (by simp)];simp only[go_sem,seval,tO,jg I,h3,Na,qC];exact⟨_,rfl⟩
   obtain⟨hh,this⟩:=this;exact jo rfl this (by first|rfl|simp only[go_sem,seval]) (by first|rfl|simp only[go_sem,seval])
  .have qC:X pr (.loop xl) ⟨[(2,.ptr 0 0,Eg),(3,.aq (aE J),Eg),(4,.ptr 1 0,Eg),(6,.aq (.agg [.str (j0 J.kind),Iv (lO J.kind),mI J.kind]),Eg),(24,.ptr 3 0,Eg)],[kR O.day O.ay O.ah O.units,kZ,.map y9,.iter (j0 J.kind) 0]⟩=Eh (.exit 0,⟨[(2,.ptr 0 0,Eg),(3,.aq (aE J),Eg),(4,.ptr 1 0,Eg),(6,.aq (.agg [.str (j0 J.kind),Iv (lO J.kind),mI J.kind]),Eg),(24,.ptr 3 0,Eg),(25,.bq [.bool Eg],Eg),(26,.bool Eg,Eg)],[kR O.day O.ay O.ah O.units,kZ,.map y9,.iter (j0 J.kind) d51]⟩):=jm8 O J h49;obtain⟨v,hv,h⟩:=qd h
   have hfn:mI J.kind=.fn (.func (Jr J.kind)) [] []:=by rw[jk5];exact jmc hv
   simp only[hfn]at qC;have af:∀(n:Int) (b:bG),qp 4 (Iv n) [b,kZ,.map y9,.iter (j0 J.kind) d51]=[b,kZ,.map y9,.iter (j0 J.kind) d51]:=fun _ _=>jw rfl;rcases jh7 (x1:=kZ) (x2:=.map y9) (x3:=.iter (j0 J.kind) d51) hv with⟨w1,w2,w3,g,hd⟩|⟨h0,hd,n,b,cs,g,g2,hn,gO,G⟩
   .rcases qe h with⟨h5,h⟩|⟨h5,h⟩
    .cases h
     have this:∃hh,ai pr (X pr) 95 [aR O,aE J] []=Eh (.bq [aG v1 v.2.ay v.2.ah v.2.units,Iv 0],Eg,hh):=by
      rw[qh (show pr.bn 95=Eh tO from rfl) (by simp)];simp only[go_sem,seval,tO,jg I,h3,Na,qC,hfn,g,af,h5];exact⟨_,rfl⟩
     obtain⟨hh,this⟩:=this;exact jo rfl this (by first|rfl|simp only[go_sem,seval]) (by first|rfl|simp only[go_sem,seval])
    .cases h
     have this:∃hh,ai pr (X pr) 95 [aR O,aE J] []=Eh (.bq [aZ,Iv v.1],Eg,hh):=by
      rw[qh (show pr.bn 95=Eh tO from rfl) (by simp)];simp only[go_sem,seval,tO,jg I,h3,Na,qC,hfn,g,af,h5];exact⟨_,rfl⟩
     obtain⟨hh,this⟩:=this;exact jo rfl this (by first|rfl|simp only[go_sem,seval]) (by first|rfl|simp only[go_sem,seval])
   .have h5:decide (v.1=0)=E8:=decide_eq_true h0;rw[h5]at h;cases h;have ab:∀(n:Int) (c:bG),qp 4 (Iv n) [c,kZ,.map y9,.iter (j0 J.kind) d51,b,.cells cs]=(bif ze 4 c&&qr 4 [kZ,.map y9,.iter (j0 J.kind) d51]then [c,kZ,.map y9,.iter (j0 J.kind) d51]else [c,kZ,.map y9,.iter (j0 J.kind) d51,b,.cells cs]):=fun _ _=>rfl
    have this:ai pr (X pr) 95 [aR O,aE J] []=Eh (.bq [.agg [Iv v1,sl 5 jd v.2.ay,sl 4 qz v.2.ah,.ms 5 0 n],Iv 0],Eg,[.cells [(Iv v1,Eg),(sl 5 jd v.2.ay,Eg),(sl 4 qz v.2.ah,Eg),(.ms 5 0 n,Eg)],.cells [(Iv v1,Eg),(sl 5 jd v.2.ay,Eg),(sl 4 qz v.2.ah,Eg),(.ms 5 0 n,Eg)],.map y9,.iter (j0 J.kind) d51,b,.cells cs]):=by
     rw[qh (show pr.bn 95=Eh tO from rfl) (by simp)];simp only[go_sem,seval,tO,jg I,h3,Na,qC,hfn,g,(show ∀n,below 4 (.ms 5 0 n)=Eg from fun _=>rfl),Bool.false_and,G5,cond_false]<;>rfl
    have fz:kr [.cells [(Iv v1,Eg),(sl 5 jd v.2.ay,Eg),(sl 4 qz v.2.ah,Eg),(.ms 5 0 n,Eg)],.cells [(Iv v1,Eg),(sl 5 jd v.2.ay,Eg),(sl 4 qz v.2.ah,Eg),(.ms 5 0 n,Eg)],.map y9,.iter (j0 J.kind) d51,b,.cells cs] (.ms 5 0 n)=Eh (sl 8 bC v.2.units):=by
     have hu:v.2.units=Eh (v.2.units.getD []):=by cases hq:v.2.units with
      |some _=>rfl|none=>rw[hq]at G;cases G
     rw[hn]at gO ⊢;rw[hu];exact vp ek gO g2
    refine jo rfl this (v':=.bq [aG v1 v.2.ay v.2.ah v.2.units,Iv 0]) ?_ (by first|rfl|simp only[go_sem,seval]);simp only[go_sem,seval,fz]<;>rfl
end Go.Z
namespace Go.Z
open Go Go.Abs Go.W
@[go_sem] theorem j2n {b v l}:(AVal.az b v l).flat=[.az b v l]:=rfl
@[go_sem] theorem zbw {b v l}:qm (.az b v l)=E8:=rfl
@[go_sem] theorem j36 {b v l}:AVal.cP (.az b v l)=Eg:=rfl
theorem VJ:∀ x:GEv,(vev x).flat.length=5:=fun _=>rfl
theorem VF:∀ x:av,(ju x).flat.length=4:=fun _=>rfl
section
variable {h:qi}{α:Type}
theorem pi {sz b v len:Nat}{l:List α}{i x}(M:qo (l.take len) i=Eh x):iR sz h (Eh (.az b v len)) (Eh (Iv i))=Eh ⟨.dN b v (i.toNat*sz),Eg,En,h⟩/\l[i.toNat]?=Eh x:=by
 unfold qo at M;split at M
 .rename_i hi;have I:=(List.getElem?_eq_some_iff.1 M).1;rw[List.length_take]at I
  have h3:i.toNat<len:=by omega
  refine⟨?_,?_⟩
  .have:=jhz (sz:=sz) (h:=h) (b:=b) (v:=v) (k:=.i64) h3;rw[Int.toNat_of_nonneg hi]at this;exact this
  .rw[List.getElem?_take,if_pos h3]at M;exact M
 .cases M
theorem N8 {sz b v len:Nat}{i}(hi:0<=i)(hl:i<=(len:Int)):nY sz h (Eh (.az b v len)) En (Eh (Eh (Iv i)))=Eh ⟨.az b v i.toNat,Eg,En,h⟩:=by
 have:pL len len (Eh (Eh (Iv i)))=Eh i.toNat:=by
  simp only[pL,Ab]
  cases i with
  |ofNat n=>
   have Y:((n:Nat):Int)<=(len:Int):=hl
   have I:n<=len:=by omega
   simp only[G0 I,cond_true];rfl
  |negSucc n=>omega
 simp only[nY,this];rfl
def pJ (xs:List α)(len:Nat)(x:α):Option (List α):=if len<=xs.length/\len+1<=1073741824 then Eh (xs.take len++[x])else En
theorem vj {h0 b v len r sz bytes:Nat}{c:Bool}{f:α->AVal}{l l':List α}{x}(hp:pJ l len x=Eh l')(hb:h[b]?=Eh (.vec sz v (l.map f)))(M:qt 0 [f x]=E8)(hz:0<sz)(SJ:bytes<=4096)(Q:r<1000):
  kD h0 r sz bytes h (Eh (.az b v len)) (Eh (.list c sz [f x]))=Eh ⟨.az b (v+1) (len+1),Eg,En,h.set b (.vec sz (v+1) (l'.map f))⟩:=by
 unfold pJ at hp;split at hp
 .rename_i hl;cases hp;have:=jer (h:=h) (h0:=h0) (c:=c) (ys:=[f x]) hb (by rw[List.length_map];exact hl.1) (by simpa using hl.2) SJ hz M Q;rw[this];simp[List.map_take]
 .cases hp
end
structure HV where
 ev:List GEv
 ve:Nat
 cs:List GEv
 lc:Nat
 vc:Nat
 ss:List av
 ls:Nat
 vs:Nat
abbrev kV (v:HV)(a b c:Nat):bG:=.cells [(.az a v.ve v.ev.length,Eg),(.az b v.vc v.lc,Eg),(.az c v.vs v.ls,Eg)]
theorem V5 {n st}(h:qr n (st.heap.take n)=Eg):gc n st=st:=by
 unfold gc;rw[h,G5,cond_false];cases Nat.ble st.heap.length n<;>rfl
theorem N7 {α:Type}{l l':List α}{x}(h:pJ l l.length x=Eh l'):l'.length=l.length+1:=by
 unfold pJ at h;split at h
 .cases h;simp
 .cases h
def wF (s:HV)(e:GEv):Option (Int×HV):=
 cond (decide (e.number=qf .i64 ((s.ev.length:Int)+1)))
  (cond (decide (e.kind=([117,110,100,111]:aj)))
   (qc (f18 (decide ((s.lc:Int)=0)) 12) fun e1=>
   cond (decide (0<(s.lc:Int)))
    (qc (qo (s.cs.take s.lc) (max 0 (qf .i64 ((s.lc:Int)-1)))) fun x=>
    qc (f18 (decide (x.kind=([115,104,105,112]:aj))) 19) fun e2=>
    qc (f17 (Eh [e1,e2])) fun e3=>
    cond (decide (e3=0))
     (cond (decide (0<=qf .i64 ((s.lc:Int)-1)/\qf .i64 ((s.lc:Int)-1)<=(s.lc:Int)/\s.lc<=s.ls))
      (qc (pJ s.ev s.ev.length e) fun ev=>Eh (0,{ s with ev:=ev,ve:=s.ve+1,lc:=(qf .i64 ((s.lc:Int)-1)).toNat,ls:=s.lc }))
      En)
     (Eh (e3,s)))
    (qc (f18 Eg 19) fun e2=>qc (f17 (Eh [e1,e2])) fun e3=>cond (decide (e3=0)) En (Eh (e3,s))))
   (qc (qo (s.ss.take s.ls) (qf .i64 ((s.ls:Int)-1))) fun r=>
   qc (f95 r e) fun v=>
   cond (decide (v.2=0))
    (qc (pJ s.cs s.lc e) fun cs=>qc (pJ s.ss s.ls v.1) fun ss=>qc (pJ s.ev s.ev.length e) fun ev=>
    Eh (0,{ ev:=ev,ve:=s.ve+1,cs:=cs,lc:=s.lc+1,vc:=s.vc+1,ss:=ss,ls:=s.ls+1,vs:=s.vs+1 }))
    (Eh (v.2,s))))
  (Eh (11,s))
theorem JX:decide (((([]:List AVal).length:Nat):Int)=0)=E8:=rfl
theorem jvs:decide ((0:Int)<((([]:List AVal).length:Nat):Int))=Eg:=rfl
theorem Oe:decide ((0:Int)<((0:Nat):Int))=Eg:=rfl
def dl:av:=⟨0,En,En,En⟩
def wE (e:GEv):Option (Int×Option HV):=
 cond (decide (e.number=qf .i64 1))
  (cond (decide (e.kind=([117,110,100,111]:aj)))
   (qc (f18 E8 12) fun e1=>qc (f18 Eg 19) fun e2=>qc (f17 (Eh [e1,e2])) fun e3=>cond (decide (e3=0)) En (Eh (e3,En)))
   (qc (f95 dl e) fun v=>
   cond (decide (v.2=0))
    (Eh (0,Eh { ev:=[e],ve:=0,cs:=[e],lc:=1,vc:=0,ss:=[dl,v.1],ls:=2,vs:=1 }))
    (Eh (v.2,En))))
  (Eh (11,En))
def qZ (s:Option HV)(e:GEv):Option (Int×Option HV):=match s with
 |none=>wE e
 |some s=>qc (wF s e) fun q=>Eh (q.1,Eh q.2)
def pf (l:ak GEv)(x:Int×Option HV):Option ((Int×Option HV)⊕((Int×Int×Option HV)⊕(Int×Option HV))):=
 cond (decide (x.1<((l.getD []).length:Int)))
  (qc (qo (l.getD []) x.1) fun e=>
  qc (f24 e) fun c=>
  cond (decide (c=0))
   (qc (f35 e) fun e2=>
   qc (qZ x.2 e2) fun q=>
   cond (decide (q.1=0))
    (Eh (.inl (qf .i64 (x.1+1),q.2)))
    (Eh (.inr (.inl (qf .i64 (x.1+1),q.1,q.2)))))
   (Eh (.inr (.inl (qf .i64 (x.1+1),c,x.2)))))
  (Eh (.inr (.inr x)))
def f33 (l:ak GEv):Option ((Int×Int)⊕Option HV):=
 cond (decide (1000<((l.getD []).length:Int)))
  (Eh (.inl (0,5)))
  (qc (bu (pf l) (0,En)) fun d=>match d with
  | .inl d=>Eh (.inl (d.1,d.2.1))
  | .inr d=>Eh (.inr d.2))
theorem jyt {s:HV}{r:av}(M:qo (s.ss.take s.ls) (qf .i64 ((s.ls:Int)-1))=Eh r):ai pr (X pr) 36 [.ptr 3 0] [kZ,.hole,kO,kV s 8 6 5,cn,.vec 4 s.vs (s.ss.map ju),.vec 5 s.vc (s.cs.map vev),.hole,.vec 5 s.ve (s.ev.map vev)]=Eh (aR r,Eg,[kZ,.hole,kO,kV s 8 6 5,cn,.vec 4 s.vs (s.ss.map ju),.vec 5 s.vc (s.cs.map vev),.hole,.vec 5 s.ve (s.ev.map vev),kR r.day r.ay r.ah r.units]):=by
 have g1:∀h:qi,iR 4 h (Eh (.az 5 s.vs s.ls)) (Eh (Iv (qf .i64 ((s.ls:Int)-1))))=Eh ⟨.dN 5 s.vs ((qf .i64 ((s.ls:Int)-1)).toNat*4),Eg,En,h⟩:=fun h=>(pi M).1;have g2:kh 10 (Eh []) E8 4 [kZ,.hole,kO,kV s 8 6 5,cn,.vec 4 s.vs (s.ss.map ju),.vec 5 s.vc (s.cs.map vev),.hole,.vec 5 s.ve (s.ev.map vev),kZ] (Eh (.dN 5 s.vs ((qf .i64 ((s.ls:Int)-1)).toNat*4)))=Eh ⟨aR r,Eg,En,[kZ,.hole,kO,kV s 8 6 5,cn,.vec 4 s.vs (s.ss.map ju),.vec 5 s.vc (s.cs.map vev),.hole,.vec 5 s.ve (s.ev.map vev),kZ]⟩:=M4 VF rfl rfl (pi (sz:=4) (b:=0) (v:=0) (h:=[]) M).2;rw[qh (show pr.bn 36=Eh tm from rfl) (by simp)];simp only[go_sem,seval,tm,g1,g2]<;>rfl
theorem j1z {s:HV}{e:GEv}{q}(h:wF s e=Eh q):∃hh,ai pr (X pr) 25 [.ptr 3 0,aE e] [kZ,.hole,kO,kV s 8 6 5,cn,.vec 4 s.vs (s.ss.map ju),.vec 5 s.vc (s.cs.map vev),.hole,.vec 5 s.ve (s.ev.map vev)]=Eh (Iv q.1,Eg,hh)/\qp 9 (Iv q.1) hh=[kZ,.hole,kO,.cells [(.az 8 q.2.ve q.2.ev.length,Eg),(.az 6 q.2.vc q.2.lc,Eg),(.az 5 q.2.vs q.2.ls,Eg)],cn,.vec 4 q.2.vs (q.2.ss.map ju),.vec 5 q.2.vc (q.2.cs.map vev),.hole,.vec 5 q.2.ve (q.2.ev.map vev)]:=by
 unfold wF at h;rcases qe h with⟨Y,h⟩|⟨Y,h⟩
 .rcases qe h with⟨I,h⟩|⟨I,h⟩
  .obtain⟨e1,k1,h⟩:=qd h;have w1:=dp k1;rcases qe h with⟨h3,h⟩|⟨h3,h⟩
   .obtain⟨x,k2,h⟩:=qd h;obtain⟨e2,k3,h⟩:=qd h;obtain⟨e3,k4,h⟩:=qd h;have w2:=dp k3;have w3:ae pr (X pr) 17 [.list Eg 1 [Iv e1,Iv e2]]=Eh (Iv e3,Eg):=fC k4;have g1:∀h:qi,iR 5 h (Eh (.az 6 s.vc s.lc)) (Eh (Iv (max 0 (qf .i64 ((s.lc:Int)-1)))))=Eh ⟨.dN 6 s.vc ((max 0 (qf .i64 ((s.lc:Int)-1))).toNat*5),Eg,En,h⟩:=fun h=>(pi k2).1;have g2:kh 9 En Eg 1 [kZ,.hole,kO,kV s 8 6 5,cn,.vec 4 s.vs (s.ss.map ju),.vec 5 s.vc (s.cs.map vev),.hole,.vec 5 s.ve (s.ev.map vev)] (Eh (.dN 6 s.vc ((max 0 (qf .i64 ((s.lc:Int)-1))).toNat*5+1)))=Eh ⟨.str x.kind,Eg,En,[kZ,.hole,kO,kV s 8 6 5,cn,.vec 4 s.vs (s.ss.map ju),.vec 5 s.vc (s.cs.map vev),.hole,.vec 5 s.ve (s.ev.map vev)]⟩:=jh3 (f:=vev) (o:=1) VJ rfl rfl (pi (sz:=4) (b:=0) (v:=0) (h:=[]) k2).2 rfl;rcases qe h with⟨h4,h⟩|⟨h4,h⟩
    .rcases qe h with⟨h5,h⟩|⟨_,h⟩
     .obtain⟨ev,dY,h⟩:=qd h;cases h;have cS:=of_decide_eq_true h5;have vL:ev.length=s.ev.length+1:=N7 dY;have g3:∀h:qi,nY 5 h (Eh (.az 6 s.vc s.lc)) En (Eh (Eh (Iv (qf .i64 ((s.lc:Int)-1)))))=Eh ⟨.az 6 s.vc (qf .i64 ((s.lc:Int)-1)).toNat,Eg,En,h⟩:=fun h=>N8 cS.1 cS.2.1;have g4:∀h:qi,nY 4 h (Eh (.az 5 s.vs s.ls)) En (Eh (Eh (Iv (s.lc:Int))))=Eh ⟨.az 5 s.vs s.lc,Eg,En,h⟩:=fun h=>N8 (by omega) (by have:=cS.2.2;omega);have g5:kD 9 0 5 88 [kZ,.hole,kO,.cells [(.az 8 s.ve s.ev.length,Eg),(.az 6 s.vc (qf .i64 ((s.lc:Int)-1)).toNat,Eg),(.az 5 s.vs s.lc,Eg)],cn,.vec 4 s.vs (s.ss.map ju),.vec 5 s.vc (s.cs.map vev),.hole,.vec 5 s.ve (s.ev.map vev),.hole] (Eh (.az 8 s.ve s.ev.length)) (Eh (.list Eg 5 [aE e]))=Eh ⟨.az 8 (s.ve+1) (s.ev.length+1),Eg,En,[kZ,.hole,kO,.cells [(.az 8 s.ve s.ev.length,Eg),(.az 6 s.vc (qf .i64 ((s.lc:Int)-1)).toNat,Eg),(.az 5 s.vs s.lc,Eg)],cn,.vec 4 s.vs (s.ss.map ju),.vec 5 s.vc (s.cs.map vev),.hole,.vec 5 (s.ve+1) (ev.map vev),.hole]⟩:=vj (f:=vev) (x:=e) dY rfl (by simp only[go_sem,seval]) (by decide) (by decide) (by decide);refine⟨[kZ,.hole,kO,.cells [(.az 8 (s.ve+1) (s.ev.length+1),Eg),(.az 6 s.vc (qf .i64 ((s.lc:Int)-1)).toNat,Eg),(.az 5 s.vs s.lc,Eg)],cn,.vec 4 s.vs (s.ss.map ju),.vec 5 s.vc (s.cs.map vev),.hole,.vec 5 (s.ve+1) (ev.map vev),.hole],?_,?_⟩
      .rw[qh (show pr.bn 25=Eh eu from rfl) (by simp)];simp only[go_sem,seval,eu,Y,I,w1,h3,g1,g2,w2,w3,h4,g3,g4,g5]<;>rfl
      .simp only[vL];simp only[go_sem,seval]<;>rfl
     .cases h
    .cases h;refine⟨[kZ,.hole,kO,kV s 8 6 5,cn,.vec 4 s.vs (s.ss.map ju),.vec 5 s.vc (s.cs.map vev),.hole,.vec 5 s.ve (s.ev.map vev)],?_,jw rfl⟩;rw[qh (show pr.bn 25=Eh eu from rfl) (by simp)];simp only[go_sem,seval,eu,Y,I,w1,h3,g1,g2,w2,w3,h4]<;>rfl
   .obtain⟨e2,k3,h⟩:=qd h;obtain⟨e3,k4,h⟩:=qd h;have w2:=dp k3;have w3:ae pr (X pr) 17 [.list Eg 1 [Iv e1,Iv e2]]=Eh (Iv e3,Eg):=fC k4;rcases qe h with⟨h4,h⟩|⟨h4,h⟩
    .cases h
    .cases h;refine⟨[kZ,.hole,kO,kV s 8 6 5,cn,.vec 4 s.vs (s.ss.map ju),.vec 5 s.vc (s.cs.map vev),.hole,.vec 5 s.ve (s.ev.map vev)],?_,jw rfl⟩;rw[qh (show pr.bn 25=Eh eu from rfl) (by simp)];simp only[go_sem,seval,eu,Y,I,w1,h3,w2,w3,h4]<;>rfl
  .obtain⟨r,k1,h⟩:=qd h;obtain⟨v,k2,h⟩:=qd h;have w1:=jyt k1
   have wa:qp 9 (aR r) [kZ,.hole,kO,kV s 8 6 5,cn,.vec 4 s.vs (s.ss.map ju),.vec 5 s.vc (s.cs.map vev),.hole,.vec 5 s.ve (s.ev.map vev),kR r.day r.ay r.ah r.units]=[kZ,.hole,kO,kV s 8 6 5,cn,.vec 4 s.vs (s.ss.map ju),.vec 5 s.vc (s.cs.map vev),.hole,.vec 5 s.ve (s.ev.map vev)]:=by simp only[go_sem,seval]<;>rfl
   have w2:ae pr (X pr) 95 [aR r,aE e]=Eh (.bq [aR v.1,Iv v.2],Eg):=N9 k2;rcases qe h with⟨h3,h⟩|⟨h3,h⟩
   .obtain⟨cs,hcs,h⟩:=qd h;obtain⟨ss,rZ,h⟩:=qd h;obtain⟨ev,dY,h⟩:=qd h;cases h;have vL:ev.length=s.ev.length+1:=N7 dY;have g1:kD 9 0 5 88 [kZ,.hole,kO,kV s 8 6 5,cn,.vec 4 s.vs (s.ss.map ju),.vec 5 s.vc (s.cs.map vev),.hole,.vec 5 s.ve (s.ev.map vev),.hole,.hole] (Eh (.az 6 s.vc s.lc)) (Eh (.list Eg 5 [aE e]))=Eh ⟨.az 6 (s.vc+1) (s.lc+1),Eg,En,[kZ,.hole,kO,kV s 8 6 5,cn,.vec 4 s.vs (s.ss.map ju),.vec 5 (s.vc+1) (cs.map vev),.hole,.vec 5 s.ve (s.ev.map vev),.hole,.hole]⟩:=vj (f:=vev) (x:=e) hcs rfl (by simp only[go_sem,seval]) (by decide) (by decide) (by decide);have g2:kD 9 1 4 80 [kZ,.hole,kO,kV s 8 6 5,cn,.vec 4 s.vs (s.ss.map ju),.vec 5 (s.vc+1) (cs.map vev),.hole,.vec 5 s.ve (s.ev.map vev),.hole,.hole] (Eh (.az 5 s.vs s.ls)) (Eh (.list Eg 4 [aR v.1]))=Eh ⟨.az 5 (s.vs+1) (s.ls+1),Eg,En,[kZ,.hole,kO,kV s 8 6 5,cn,.vec 4 (s.vs+1) (ss.map ju),.vec 5 (s.vc+1) (cs.map vev),.hole,.vec 5 s.ve (s.ev.map vev),.hole,.hole]⟩:=vj (f:=ju) (x:=v.1) rZ rfl (by simp only[go_sem,seval]) (by decide) (by decide) (by decide);have g3:kD 11 0 5 88 [kZ,.hole,kO,.cells [(.az 8 s.ve s.ev.length,Eg),(.az 6 (s.vc+1) (s.lc+1),Eg),(.az 5 (s.vs+1) (s.ls+1),Eg)],cn,.vec 4 (s.vs+1) (ss.map ju),.vec 5 (s.vc+1) (cs.map vev),.hole,.vec 5 s.ve (s.ev.map vev),.hole,.hole,.hole] (Eh (.az 8 s.ve s.ev.length)) (Eh (.list Eg 5 [aE e]))=Eh ⟨.az 8 (s.ve+1) (s.ev.length+1),Eg,En,[kZ,.hole,kO,.cells [(.az 8 s.ve s.ev.length,Eg),(.az 6 (s.vc+1) (s.lc+1),Eg),(.az 5 (s.vs+1) (s.ls+1),Eg)],cn,.vec 4 (s.vs+1) (ss.map ju),.vec 5 (s.vc+1) (cs.map vev),.hole,.vec 5 (s.ve+1) (ev.map vev),.hole,.hole,.hole]⟩:=vj (f:=vev) (x:=e) dY rfl (by simp only[go_sem,seval]) (by decide) (by decide) (by decide);refine⟨[kZ,.hole,kO,.cells [(.az 8 (s.ve+1) (s.ev.length+1),Eg),(.az 6 (s.vc+1) (s.lc+1),Eg),(.az 5 (s.vs+1) (s.ls+1),Eg)],cn,.vec 4 (s.vs+1) (ss.map ju),.vec 5 (s.vc+1) (cs.map vev),.hole,.vec 5 (s.ve+1) (ev.map vev),.hole,.hole,.hole],?_,?_⟩
    .rw[qh (show pr.bn 25=Eh eu from rfl) (by simp)];simp only[go_sem,seval,eu,Y,I,w1,wa,w2,h3,g1,g2,g3]<;>rfl
    .simp only[vL];simp only[go_sem,seval]<;>rfl
   .cases h;refine⟨[kZ,.hole,kO,kV s 8 6 5,cn,.vec 4 s.vs (s.ss.map ju),.vec 5 s.vc (s.cs.map vev),.hole,.vec 5 s.ve (s.ev.map vev)],?_,jw rfl⟩;rw[qh (show pr.bn 25=Eh eu from rfl) (by simp)];simp only[go_sem,seval,eu,Y,I,w1,wa,w2,h3]<;>rfl
 .cases h;refine⟨[kZ,.hole,kO,kV s 8 6 5,cn,.vec 4 s.vs (s.ss.map ju),.vec 5 s.vc (s.cs.map vev),.hole,.vec 5 s.ve (s.ev.map vev)],?_,jw rfl⟩;rw[qh (show pr.bn 25=Eh eu from rfl) (by simp)];simp only[go_sem,seval,eu,Y]<;>rfl
theorem js4:ai pr (X pr) 36 [.ptr 3 0] [kZ,.hole,kO,cn,cn,.vec 4 0 [aZ]]=Eh (aZ,Eg,[kZ,.hole,kO,cn,cn,.vec 4 0 [aZ],kZ]):=by
 have g1:∀h:qi,iR 4 h (Eh (.az 5 0 1)) (Eh (Iv (qf .i64 0)))=Eh ⟨.dN 5 0 0,Eg,En,h⟩:=fun h=>(pi (l:=[dl]) (x:=dl) rfl).1;have g2:kh 7 (Eh []) E8 4 [kZ,.hole,kO,cn,cn,.vec 4 0 [aZ],kZ] (Eh (.dN 5 0 0))=Eh ⟨aZ,Eg,En,[kZ,.hole,kO,cn,cn,.vec 4 0 [aZ],kZ]⟩:=rfl;rw[qh (show pr.bn 36=Eh tm from rfl) (by simp)];simp only[go_sem,seval,tm,g1,g2]<;>rfl
theorem jvq {e:GEv}{q}(h:wE e=Eh q):∃hh,ai pr (X pr) 25 [.ptr 3 0,aE e] [kZ,.hole,kO,cn,cn,.vec 4 0 [aZ]]=Eh (Iv q.1,Eg,hh)/\qp 6 (Iv q.1) hh=(match q.2 with
  |none=>[kZ,.hole,kO,cn,cn,.vec 4 0 [aZ]]
  |some v=>[kZ,.hole,kO,kV v 8 6 5,cn,.vec 4 v.vs (v.ss.map ju),.vec 5 v.vc (v.cs.map vev),.hole,.vec 5 v.ve (v.ev.map vev)]):=by
 unfold wE at h;rcases qe h with⟨Y,h⟩|⟨Y,h⟩
 .rcases qe h with⟨I,h⟩|⟨I,h⟩
  .obtain⟨e1,k1,h⟩:=qd h;obtain⟨e2,k3,h⟩:=qd h;obtain⟨e3,k4,h⟩:=qd h;have w1:=dp k1;have w2:=dp k3;have w3:ae pr (X pr) 17 [.list Eg 1 [Iv e1,Iv e2]]=Eh (Iv e3,Eg):=fC k4;rcases qe h with⟨h4,h⟩|⟨h4,h⟩
   .cases h
   .cases h;refine⟨[kZ,.hole,kO,cn,cn,.vec 4 0 [aZ]],?_,jw rfl⟩;rw[qh (show pr.bn 25=Eh eu from rfl) (by simp)];simp only[go_sem,seval,eu,Y,I,w1,w2,w3,h4,JX,jvs,Oe]<;>rfl
  .obtain⟨v,k2,h⟩:=qd h;have w1:=js4
   have wa:qp 6 (aZ) [kZ,.hole,kO,cn,cn,.vec 4 0 [aZ],kZ]=[kZ,.hole,kO,cn,cn,.vec 4 0 [aZ]]:=by simp only[go_sem,seval]<;>rfl
   have w2:ae pr (X pr) 95 [aZ,aE e]=Eh (.bq [aR v.1,Iv v.2],Eg):=N9 k2;rcases qe h with⟨h3,h⟩|⟨h3,h⟩
   .cases h
    have g1:kD 6 0 5 88 [kZ,.hole,kO,cn,cn,.vec 4 0 [aZ],.hole,.hole] (Eh (Nl)) (Eh (.list Eg 5 [aE e]))=Eh ⟨.az 6 0 1,Eg,En,[kZ,.hole,kO,cn,cn,.vec 4 0 [aZ],.vec 5 0 [aE e],.hole]⟩:=by apply M5<;>first|rfl|decide|(simp only[go_sem,seval]<;>done)|simp
    have g2:kD 6 1 4 80 [kZ,.hole,kO,cn,cn,.vec 4 0 [aZ],.vec 5 0 [aE e],.hole] (Eh (.az 5 0 1)) (Eh (.list Eg 4 [aR v.1]))=Eh ⟨.az 5 1 2,Eg,En,[kZ,.hole,kO,cn,cn,.vec 4 1 [aZ,aR v.1],.vec 5 0 [aE e],.hole]⟩:=vj (f:=ju) (l:=[dl]) (l':=[dl,v.1]) (x:=v.1) rfl rfl (by simp only[go_sem,seval]) (by decide) (by decide) (by decide)
    have g3:kD 8 0 5 88 [kZ,.hole,kO,.cells [(Nl,Eg),(.az 6 0 1,Eg),(.az 5 1 2,Eg)],cn,.vec 4 1 [aZ,aR v.1],.vec 5 0 [aE e],.hole,.hole] (Eh (Nl)) (Eh (.list Eg 5 [aE e]))=Eh ⟨.az 8 0 1,Eg,En,[kZ,.hole,kO,.cells [(Nl,Eg),(.az 6 0 1,Eg),(.az 5 1 2,Eg)],cn,.vec 4 1 [aZ,aR v.1],.vec 5 0 [aE e],.hole,.vec 5 0 [aE e]]⟩:=by apply M5<;>first|rfl|decide|(simp only[go_sem,seval]<;>done)|simp
    refine⟨[kZ,.hole,kO,.cells [(.az 8 0 1,Eg),(.az 6 0 1,Eg),(.az 5 1 2,Eg)],cn,.vec 4 1 [aZ,aR v.1],.vec 5 0 [aE e],.hole,.vec 5 0 [aE e]],?_,?_⟩
    .rw[qh (show pr.bn 25=Eh eu from rfl) (by simp)];simp only[go_sem,seval,eu,Y,I,w1,wa,w2,h3,g1,g2,g3,JX]<;>rfl
    .simp only[go_sem,seval,(show ∀k b v l,k<=b->below k (.az b v l)=Eg from fun k b v l h=>by rw[qP];exact decide_eq_false (by omega))]<;>rfl
   .cases h;refine⟨[kZ,.hole,kO,cn,cn,.vec 4 0 [aZ]],?_,jw rfl⟩;rw[qh (show pr.bn 25=Eh eu from rfl) (by simp)];simp only[go_sem,seval,eu,Y,I,w1,wa,w2,h3]<;>rfl
 .cases h;refine⟨[kZ,.hole,kO,cn,cn,.vec 4 0 [aZ]],?_,jw rfl⟩;rw[qh (show pr.bn 25=Eh eu from rfl) (by simp)];simp only[go_sem,seval,eu,Y]<;>rfl
def oy:Option HV->qi
 |none=>[kZ,.hole,kO,cn,cn,.vec 4 0 [aZ]]|some v=>[kZ,.hole,kO,kV v 8 6 5,cn,.vec 4 v.vs (v.ss.map ju),.vec 5 v.vc (v.cs.map vev),.hole,.vec 5 v.ve (v.ev.map vev)]
def qD (l:ak GEv)(x:Int×Option HV):bj:=⟨[(2,.ptr 2 0,Eg),(5,.ptr 3 0,Eg),(14,sl 5 vev l,Eg),(15,Lv l,Eg),(16,Iv x.1,Eg)],oy x.2⟩
def vr (l:ak GEv):(Int×Int×Option HV)⊕(Int×Option HV)->jc×bj
 | .inl d=>(.ret,⟨[(2,.ptr 2 0,Eg),(3,Iv d.1,Eg),(4,Iv d.2.1,Eg)],oy d.2.2⟩)| .inr d=>(.exit 0,⟨[(2,.ptr 2 0,Eg),(5,.ptr 3 0,Eg),(14,sl 5 vev l,Eg),(15,Lv l,Eg),(16,Iv d.1,Eg),(17,.bool Eg,Eg)],oy d.2⟩)
theorem jxl (l:ak GEv)(x:Int×Option HV)(r)(h:pf l x=Eh r):js pr lS (qD l) (vr l) x r:=by
 rcases x with⟨i,o⟩;unfold pf at h;rcases qe h with⟨Y,h⟩|⟨Y,h⟩
 .obtain⟨e,I,h⟩:=qd h;obtain⟨c,h3,h⟩:=qd h;have w1:ae pr (X pr) 24 [aE e]=Eh (Iv c,Eg):=FW h3;rcases qe h with⟨h4,h⟩|⟨h4,h⟩
  .obtain⟨e2,h5,h⟩:=qd h;obtain⟨q,h6,h⟩:=qd h;have w2:ae pr (X pr) 35 [aE e]=Eh (aE e2,Eg):=W35 h5;rcases o with _|s
   .obtain⟨hh,w3,wa⟩:=jvq (e:=e2) h6;rcases q with⟨q1,q2⟩;rcases q2 with _|v
    .simp only at wa;rcases qe h with⟨h7,h⟩|⟨h7,h⟩
     .cases h;exact z7 (bN:=qD l (qf .i64 (i+1),En)) (by simp only[go_sem,seval,lS,qD,oy,Y,jg I,w1,h4,w2,w3,wa,h7]<;>rfl) (yv (G4 _))
     .cases h;exact qw (by simp only[go_sem,seval,lS,qD,oy,Y,jg I,w1,h4,w2,w3,wa,h7,vr]<;>rfl)
    .simp only at wa;rcases qe h with⟨h7,h⟩|⟨h7,h⟩
     .cases h;exact z7 (bN:=qD l (qf .i64 (i+1),Eh v)) (by simp only[go_sem,seval,lS,qD,oy,Y,jg I,w1,h4,w2,w3,wa,h7]<;>rfl) (V5 rfl)
     .cases h;exact qw (by simp only[go_sem,seval,lS,qD,oy,Y,jg I,w1,h4,w2,w3,wa,h7,vr]<;>rfl)
   .obtain⟨q0,h8,h9⟩:=qd h6;cases h9;obtain⟨hh,w3,wa⟩:=j1z (e:=e2) h8;rcases qe h with⟨h7,h⟩|⟨h7,h⟩
    .cases h;exact z7 (bN:=qD l (qf .i64 (i+1),Eh q0.2)) (by simp only[go_sem,seval,lS,qD,oy,Y,jg I,w1,h4,w2,w3,wa,h7]<;>rfl) (yv (G4 _))
    .cases h;exact qw (by simp only[go_sem,seval,lS,qD,oy,Y,jg I,w1,h4,w2,w3,wa,h7,vr]<;>rfl)
  .cases h;rcases o with _|s
   .exact qw (by simp only[go_sem,seval,lS,qD,oy,Y,jg I,w1,h4,vr]<;>rfl)
   .exact qw (by simp only[go_sem,seval,lS,qD,oy,Y,jg I,w1,h4,vr]<;>rfl)
 .cases h;exact qw (by simp only[go_sem,seval,lS,qD,Y,vr]<;>rfl)
theorem j01:ai pr (X pr) 16 [] [kZ,.hole,kO,.hole]=Eh (.agg [Nl,Nl,.az 5 0 1],Eg,[kZ,.hole,kO,.hole,cn,.vec 4 0 [aZ]]):=by
 have KH:qg pr (X pr) 5 En [(1,aZ,Eg),(0,.ptr 4 0,Eg)] [kZ,.hole,kO,.hole,kO,.hole] (.fL 0 4 1 [Iv 0,Nl,Nl,Nl] [(0,.tmp 1)])=Eh ⟨.az 5 0 1,Eg,En,[kZ,.hole,kO,.hole,kO,.vec 4 0 [aZ]]⟩:=rfl;rw[qh (show pr.bn 16=Eh J8 from rfl) (by simp)];simp only[go_sem,seval,J8,KH]<;>rfl
def zZ:Option HV->qi
 |none=>[kZ,.hole,cn,cn,cn,.vec 4 0 [aZ]]|some v=>[kZ,.hole,kV v 8 6 5,kV v 8 6 5,cn,.vec 4 v.vs (v.ss.map ju),.vec 5 v.vc (v.cs.map vev),.hole,.vec 5 v.ve (v.ev.map vev)]
def Ey:Option HV->AVal
 |none=>.agg [Nl,Nl,.az 5 0 1]|some v=>.agg [.az 8 v.ve v.ev.length,.az 6 v.vc v.lc,.az 5 v.vs v.ls]
def vt:(Int × Int)⊕Option HV->AVal
 | .inl x=>.bq [.agg [Nl,Nl,Nl],Iv x.1,Iv x.2]| .inr o=>.bq [Ey o,Iv 0,Iv 0]
def xm:(Int × Int)⊕Option HV->qi
 | .inl _=>[kZ,.hole]| .inr o=>zZ o
theorem j05 {l r}(h:f33 l=Eh r):∃hh,ai pr (X pr) 33 [sl 5 vev l] [kZ,.hole]=Eh (vt r,Eg,hh)/\qp 2 (vt r) hh=xm r:=by
 unfold f33 at h;rcases qe h with⟨Y,h⟩|⟨Y,h⟩
 .cases h;refine⟨[kZ,.hole,kO],?_,?_⟩
  .rw[qh (show pr.bn 33=Eh mS from rfl) (by simp)];simp only[go_sem,seval,mS,Y]<;>rfl
  .simp only[go_sem,seval,vt,xm]<;>rfl
 .obtain⟨d,I,h⟩:=qd h;have w:=j01
  have wa:qp 4 (.agg [Nl,Nl,.az 5 0 1]) [kZ,.hole,kO,.hole,cn,.vec 4 0 [aZ]]=[kZ,.hole,kO,.hole,cn,.vec 4 0 [aZ]]:=by simp only[go_sem,seval]<;>rfl
  have wl:X pr (.loop lS) ⟨[(2,.ptr 2 0,Eg),(5,.ptr 3 0,Eg),(14,sl 5 vev l,Eg),(15,Lv l,Eg),(16,Iv 0,Eg)],[kZ,.hole,kO,cn,cn,.vec 4 0 [aZ]]⟩=Eh (vr l d):=zq (jxl l) I;rcases d with⟨d1,d2,d3⟩|⟨d1,d2⟩
  .cases h;simp only[vr]at wl;rcases d3 with _|v
   .refine⟨[kZ,.hole,kO,cn,cn,.vec 4 0 [aZ]],?_,?_⟩
    .simp only[oy]at wl;rw[qh (show pr.bn 33=Eh mS from rfl) (by simp)];simp only[go_sem,seval,mS,Y,w,wa,wl]<;>rfl
    .simp only[go_sem,seval,vt,xm]<;>rfl
   .refine⟨[kZ,.hole,kO,kV v 8 6 5,cn,.vec 4 v.vs (v.ss.map ju),.vec 5 v.vc (v.cs.map vev),.hole,.vec 5 v.ve (v.ev.map vev)],?_,?_⟩
    .simp only[oy]at wl;rw[qh (show pr.bn 33=Eh mS from rfl) (by simp)];simp only[go_sem,seval,mS,Y,w,wa,wl]<;>rfl
    .simp only[go_sem,seval,vt,xm]<;>rfl
  .cases h;simp only[vr]at wl;refine⟨zZ d2,?_,?_⟩
   .rw[qh (show pr.bn 33=Eh mS from rfl) (by simp)];rcases d2 with _|v
    .simp only[oy]at wl;simp only[go_sem,seval,mS,Y,w,wa,wl,Ey,zZ]<;>rfl
    .simp only[oy]at wl;simp only[go_sem,seval,mS,Y,w,wa,wl,Ey,zZ]<;>rfl
   .rcases d2 with _|v
    .simp only[go_sem,seval,vt,xm,Ey,zZ]<;>rfl
    .simp only[go_sem,seval,vt,xm,Ey,zZ]<;>rfl
end Go.Z
namespace Go.Z
open Go Go.Abs Go.W
theorem jve:ai pr (X pr) 36 [.ptr 1 0] [kZ,cn,cn,cn,cn,.vec 4 0 [aZ]]=Eh (aZ,Eg,[kZ,cn,cn,cn,cn,.vec 4 0 [aZ],kZ]):=by
 have g1:∀h:qi,iR 4 h (Eh (.az 5 0 1)) (Eh (Iv (qf .i64 0)))=Eh ⟨.dN 5 0 0,Eg,En,h⟩:=fun h=>(pi (l:=[dl]) (x:=dl) rfl).1;have g2:kh 7 (Eh []) E8 4 [kZ,cn,cn,cn,cn,.vec 4 0 [aZ],kZ] (Eh (.dN 5 0 0))=Eh ⟨aZ,Eg,En,[kZ,cn,cn,cn,cn,.vec 4 0 [aZ],kZ]⟩:=rfl;rw[qh (show pr.bn 36=Eh tm from rfl) (by simp)];simp only[go_sem,seval,tm,g1,g2]<;>rfl
theorem j08 {s r}(M:qo (s.ss.take s.ls) (qf .i64 ((s.ls:Int)-1))=Eh r):ai pr (X pr) 36 [.ptr 1 0] [kZ,kV s 8 6 5,kV s 8 6 5,kV s 8 6 5,cn,.vec 4 s.vs (s.ss.map ju),.vec 5 s.vc (s.cs.map vev),.hole,.vec 5 s.ve (s.ev.map vev)]=Eh (aR r,Eg,[kZ,kV s 8 6 5,kV s 8 6 5,kV s 8 6 5,cn,.vec 4 s.vs (s.ss.map ju),.vec 5 s.vc (s.cs.map vev),.hole,.vec 5 s.ve (s.ev.map vev),kR r.day r.ay r.ah r.units]):=by
 have g1:∀h:qi,iR 4 h (Eh (.az 5 s.vs s.ls)) (Eh (Iv (qf .i64 ((s.ls:Int)-1))))=Eh ⟨.dN 5 s.vs ((qf .i64 ((s.ls:Int)-1)).toNat*4),Eg,En,h⟩:=fun h=>(pi M).1;have g2:kh 10 (Eh []) E8 4 [kZ,kV s 8 6 5,kV s 8 6 5,kV s 8 6 5,cn,.vec 4 s.vs (s.ss.map ju),.vec 5 s.vc (s.cs.map vev),.hole,.vec 5 s.ve (s.ev.map vev),kZ] (Eh (.dN 5 s.vs ((qf .i64 ((s.ls:Int)-1)).toNat*4)))=Eh ⟨aR r,Eg,En,[kZ,kV s 8 6 5,kV s 8 6 5,kV s 8 6 5,cn,.vec 4 s.vs (s.ss.map ju),.vec 5 s.vc (s.cs.map vev),.hole,.vec 5 s.ve (s.ev.map vev),kZ]⟩:=M4 VF rfl rfl (pi (sz:=4) (b:=0) (v:=0) (h:=[]) M).2;rw[qh (show pr.bn 36=Eh tm from rfl) (by simp)];simp only[go_sem,seval,tm,g1,g2]<;>rfl
def Nu:Option HV->Option av
 |none=>Eh dl|some s=>qo (s.ss.take s.ls) (qf .i64 ((s.ls:Int)-1))
def f13 (l:ak GEv):Option (av×Int×Int):=qc (f33 l) fun r=>match r with
 | .inl x=>cond (decide (x.2=0)) En (Eh (dl,x.1,x.2))
 | .inr o=>qc (Nu o) fun r=>Eh (r,0,0)
theorem W13 {l r}(h:f13 l=Eh r):ae pr (X pr) 13 [sl 5 vev l]=Eh (.bq [aR r.1,Iv r.2.1,Iv r.2.2],Eg):=by
 unfold f13 at h;obtain⟨x,Y,h⟩:=qd h;obtain⟨hh,w,wa⟩:=j05 Y;rcases x with x|o
 .rcases qe h with⟨I,h⟩|⟨I,h⟩
  .cases h
  .cases h;simp only[vt,xm]at w wa
   have this:∃hh,ai pr (X pr) 13 [sl 5 vev l] []=Eh (.bq [aZ,Iv x.1,Iv x.2],Eg,hh):=by
    rw[qh (show pr.bn 13=Eh Ez from rfl) (by simp)];simp only[go_sem,seval,Ez,w,wa,I];exact⟨_,rfl⟩
   obtain⟨hh,this⟩:=this;exact jo rfl this (by first|rfl|simp only[go_sem,seval]) (by first|rfl|simp only[go_sem,seval])
 .obtain⟨r,I,h⟩:=qd h;cases h;rcases o with _|v
  .cases I;simp only[vt,xm,zZ,Ey]at w wa;have w2:=jve
   have wb:qp 6 (aZ) [kZ,cn,cn,cn,cn,.vec 4 0 [aZ],kZ]=[kZ,cn,cn,cn,cn,.vec 4 0 [aZ]]:=by simp only[go_sem,seval]<;>rfl
   have this:∃hh,ai pr (X pr) 13 [sl 5 vev l] []=Eh (.bq [aZ,Iv 0,Iv 0],Eg,hh):=by
    rw[qh (show pr.bn 13=Eh Ez from rfl) (by simp)];simp only[go_sem,seval,Ez,w,wa,w2,wb];exact⟨_,rfl⟩
   obtain⟨hh,this⟩:=this;exact jo rfl this (by first|rfl|simp only[go_sem,seval]) (by first|rfl|simp only[go_sem,seval])
  .simp only[vt,xm,zZ,Ey]at w wa;have w2:=j08 (s:=v) I
   have wb:qp 9 (aR r) [kZ,kV v 8 6 5,kV v 8 6 5,kV v 8 6 5,cn,.vec 4 v.vs (v.ss.map ju),.vec 5 v.vc (v.cs.map vev),.hole,.vec 5 v.ve (v.ev.map vev),kR r.day r.ay r.ah r.units]=[kZ,kV v 8 6 5,kV v 8 6 5,kV v 8 6 5,cn,.vec 4 v.vs (v.ss.map ju),.vec 5 v.vc (v.cs.map vev),.hole,.vec 5 v.ve (v.ev.map vev)]:=by simp only[go_sem,seval]<;>rfl
   have this:∃hh,ai pr (X pr) 13 [sl 5 vev l] []=Eh (.bq [aR r,Iv 0,Iv 0],Eg,hh):=by
    rw[qh (show pr.bn 13=Eh Ez from rfl) (by simp)];simp only[go_sem,seval,Ez,w,wa,w2,wb];exact⟨_,rfl⟩
   obtain⟨hh,this⟩:=this;exact jo rfl this (by first|rfl|simp only[go_sem,seval]) (by first|rfl|simp only[go_sem,seval])
end Go.Z
namespace Go.Z
open Go Go.Abs Go.W
def oG:Option HV->AVal
 |none=>.agg [Nl,Nl,.az 4 0 1]|some v=>.agg [.az 7 v.ve v.ev.length,.az 5 v.vc v.lc,.az 4 v.vs v.ls]
end Go.Z
namespace Go.Z
open Go Go.Abs Go.W
def iF:Option HV->AVal
 |none=>.agg [Nl,Nl,.az 3 0 1]|some v=>.agg [.az 6 v.ve v.ev.length,.az 4 v.vc v.lc,.az 3 v.vs v.ls]
end Go.Z
end
