/- Chapter 10. -/
import Derived.Test.YtlhfdilpecnjeaaGreatDoorW1
set_option linter.all false
set_option maxRecDepth 100000
set_option maxHeartbeats 4000000
noncomputable section
open Bool renaming false->En,cond_eq_ite->Ha,true->Hb,and_false->If
open Option renaming some->Ga,none->Gd,isNone_none->H2
open Nat renaming eq_of_beq_eq_true->Gb,beq->Hc,ble_eq_true_of_le->Hq
namespace Go.Z
open Go Go.Abs Go.W
def f154 (O:av)(J:aC):Option (av×Int):=
 qa (ql (J.names.getD []) 0) fun v1=>
 qa (f80 O v1) fun v3=>
 cond (decide (v3<0))
  (Ga (O,10))
  (qa (ql (O.ay.getD []) v3) fun v6=>
  cond (decide (J.kind=([104,111,108,100]:aj)))
   (cond v6.held
    (Ga (O,34))
    (cond (decide (J.kind=([102,114,101,101]:aj)))
     (Ga (O,20))
     (qa (f220 O v3 (⟨v6.name,v6.kind,v6.count,v6.left,Hb⟩)) fun v11=>
     Ga (v11,0))))
   (cond (decide (J.kind=([102,114,101,101]:aj)))
    (cond v6.held
     (qa (f220 O v3 (⟨v6.name,v6.kind,v6.count,v6.left,En⟩)) fun dA=>
     Ga (dA,0))
     (Ga (O,20)))
    (qa (f220 O v3 (⟨v6.name,v6.kind,v6.count,v6.left,En⟩)) fun eF=>
    Ga (eF,0))))
theorem zf7 {O J r}(h:f154 O J=Ga r):ae pr (X pr) 154 [aR O,aE J]=Ga (.aI [aR r.1,Iv r.2],En):=by
 unfold f154 at h;refine jz Fi ?_
 repeat' first|(replace h:=qb h;obtain⟨d,g,h⟩:=h;with_reducible first|replace g:=Hr g|replace g:=j1u g|skip)|(replace h:=qc h;rcases h with⟨g,h⟩|⟨g,h⟩)
 all_goals (cases h<;>(simp only[go_sem,seval,Fi,ji, *];exact⟨_,rfl⟩))
def f153 (O:av)(J:aC):Option (av×Int):=
 qa (ql (J.names.getD []) 0) fun v1=>
 qa (f82 O v1) fun v3=>
 cond (decide (v3<0))
  (Ga (O,10))
  (qa (ql (O.ah.getD []) v3) fun v6=>
  cond (decide (J.kind=([110,101,101,100]:aj)))
   (qa (ql (J.values.getD []) 1) fun v9=>
   cond (decide (10000<v9))
    (Ga (O,3))
    (qa (ql (J.names.getD []) 1) fun v12=>
    qa (f217 v6.dn (⟨v12,v9⟩)) fun da=>
    cond da.2
     (cond (decide (16<((da.1.getD []).length:Int)))
      (Ga (O,5))
      (qa (f219 O v3 (⟨v6.name,da.1,v6.dt,v6.bm⟩)) fun eE=>
      Ga (eE,0)))
     (cond (decide (16<((da.1.getD []).length:Int)))
      (Ga (O,5))
      (qa (f219 O v3 (⟨v6.name,da.1,v6.dt,v6.bm⟩)) fun v21=>
      Ga (v21,0)))))
   (cond (decide (J.kind=([116,101,115,116]:aj)))
    (qa (ql (J.values.getD []) 2) fun v24=>
    qa (ql (J.values.getD []) 1) fun v26=>
    cond (decide (v24<v26))
     (Ga (O,11))
     (qa (ql (J.names.getD []) 1) fun dJ=>
     qa (f218 v6.dt (⟨dJ,v26,v24⟩)) fun v31=>
     cond v31.2
      (cond (decide (16<((v31.1.getD []).length:Int)))
       (Ga (O,5))
       (qa (f219 O v3 (⟨v6.name,v6.dn,v31.1,v6.bm⟩)) fun uf=>
       Ga (uf,0)))
      (cond (decide (16<((v31.1.getD []).length:Int)))
       (Ga (O,5))
       (qa (f219 O v3 (⟨v6.name,v6.dn,v31.1,v6.bm⟩)) fun oj=>
       Ga (oj,0)))))
    (cond (decide (((v6.dn.getD []).length:Int)=0))
     (Ga (O,12))
     (cond (decide (100<=((v6.bm.getD []).length:Int)))
      (Ga (O,5))
      (qa (bB (Ga []) (v6.bm.getD [])) fun wy=>
      qa (bB wy [⟨v6.dn,v6.dt⟩]) fun rm=>
      qa (f219 O v3 (⟨v6.name,v6.dn,v6.dt,rm⟩)) fun v46=>
      Ga (v46,0))))))
theorem zg2 {O J r}(h:f153 O J=Ga r):ae pr (X pr) 153 [aR O,aE J]=Ga (.aI [aR r.1,Iv r.2],En):=by
 unfold f153 at h;refine jz Fj ?_
 repeat' first|(replace h:=qb h;obtain⟨d,g,h⟩:=h;with_reducible first|replace g:=LH g|replace g:=zjo g|replace g:=ze8 g|replace g:=zdc g|replace g:=jcp g|skip)|(replace h:=qc h;rcases h with⟨g,h⟩|⟨g,h⟩)
 all_goals (cases h<;>(simp only[go_sem,seval,Fj,ji,kr, *];exact⟨_,rfl⟩))
def Aa (O:av)(J:Int)(a2:aC)(v1:bz)(v5:Int)(v8:jk)(dA:cn)(V:Bool×Int):Option ((Bool×Int)⊕((Bool×Int))):=
 cond (decide (V.2<((dA.bh.getD []).length:Int)))
  (cond V.1
   (Ga (.inl (Hb,qd .i64 (V.2+1))))
   (qa (ql (dA.bh.getD []) V.2) fun v26=>
   Ga (.inl (decide (v26.k=v8.kind),qd .i64 (V.2+1)))))
  (Ga (.inr (V.1,V.2)))
def Tz (O:av)(J:Int)(a2:aC)(v1:bz)(v5:Int)(v8:jk)(dA:cn)(V:Bool×Int):bg:=⟨[(1,Iv J,En),(3,.aq (aR O),En),(5,.aq (aE a2),En),(6,.ptr 0 0,En),(8,.ptr 1 0,En),(9,Iv v5,En),(10,.ptr 2 0,En),(11,.aq (aD dA),En),(12,.bool V.1,En),(13,Iv V.2,En)],[kZ,.cells [(.str v1.name,En),(.str v1.product,En),(Iv v1.version,En),(sl 2 bD v1.uses,En),(sl 3 jb v1.results,En),(.str v1.partner,En),(.bool En,En),(Iv v1.au,En)],.cells [(.str v8.name,En),(.str v8.kind,En),(Iv v8.count,En),(Iv v8.left,En),(.bool En,En)]]⟩
def TA (O:av)(J:Int)(a2:aC)(v1:bz)(v5:Int)(v8:jk)(dA:cn)(d:(Bool×Int)):q9×bg:=(.exit 0,⟨[(1,Iv J,En),(3,.aq (aR O),En),(5,.aq (aE a2),En),(6,.ptr 0 0,En),(8,.ptr 1 0,En),(9,Iv v5,En),(10,.ptr 2 0,En),(11,.aq (aD dA),En),(12,.bool d.1,En),(13,Iv d.2,En),(52,.bool En,En)],[kZ,.cells [(.str v1.name,En),(.str v1.product,En),(Iv v1.version,En),(sl 2 bD v1.uses,En),(sl 3 jb v1.results,En),(.str v1.partner,En),(.bool En,En),(Iv v1.au,En)],.cells [(.str v8.name,En),(.str v8.kind,En),(Iv v8.count,En),(Iv v8.left,En),(.bool En,En)]]⟩)
theorem jws (O:av)(J:Int)(a2:aC)(v1:bz)(v5:Int)(v8:jk)(dA:cn)(V:Bool×Int)(r)(h:Aa O J a2 v1 v5 v8 dA V=Ga r):jo pr TB (Tz O J a2 v1 v5 v8 dA) (TA O J a2 v1 v5 v8 dA) V r:=by
 unfold Aa at h
 repeat' first|(replace h:=qb h;obtain⟨d,g,h⟩:=h)|(replace h:=qc h;rcases h with⟨g,h⟩|⟨g,h⟩)
 all_goals (cases h<;>((first|refine qn ?_|refine jr ?_);simp only[go_sem,seval,TB,Tz,ji,TA, *]<;>rfl))
theorem j2q (O:av)(J:Int)(a2:aC)(v1:bz)(v5:Int)(v8:jk)(dA:cn){V d}(h:bd (Aa O J a2 v1 v5 v8 dA) V=Ga d):X pr (.loop TB) (Tz O J a2 v1 v5 v8 dA V)=Ga (TA O J a2 v1 v5 v8 dA d):=zz (jws O J a2 v1 v5 v8 dA) h
def f221 (O:av)(J:Int)(a2:aC):Option (av×Int):=
 qa (ql (O.units.getD []) J) fun v1=>
 qa (ql (a2.names.getD []) 1) fun v3=>
 qa (f80 O v3) fun v5=>
 cond (decide (v5<0))
  (Ga (O,10))
  (qa (ql (O.ay.getD []) v5) fun v8=>
  cond v1.ax
   (Ga (O,21))
   (qa (ql (a2.values.getD []) 1) fun v11=>
   cond (decide (v11=0))
    (Ga (O,3))
    (cond v8.held
     (Ga (O,34))
     (qa (f157 O (⟨v1.name,v1.product,v1.version,v1.uses,v1.results,v1.partner,En,v1.au⟩)) fun dA=>
     qa (bd (Aa O J a2 v1 v5 v8 dA) (En,0)) fun d28=>
     cond d28.1
      (cond (decide (v8.left<v11))
       (Ga (O,4))
       (qa (f262 v1.uses v8.name v11) fun fG=>
       cond fG.2
        (qa (f220 O v5 (⟨v8.name,v8.kind,v8.count,qd .i64 (v8.left-v11),En⟩)) fun uf=>
        qa (f225 uf J (⟨v1.name,v1.product,v1.version,fG.1,v1.results,v1.partner,En,v1.au⟩)) fun v37=>
        Ga (v37,0))
        (qa (f220 O v5 (⟨v8.name,v8.kind,v8.count,qd .i64 (v8.left-v11),En⟩)) fun l9=>
        qa (f225 l9 J (⟨v1.name,v1.product,v1.version,fG.1,v1.results,v1.partner,En,v1.au⟩)) fun yA=>
        Ga (yA,0))))
      (Ga (O,7))))))
theorem zd1 {O J a2 r}(h:f221 O J a2=Ga r):ae pr (X pr) 221 [aR O,Iv J,aE a2]=Ga (.aI [aR r.1,Iv r.2],En):=by
 unfold f221 at h;refine jz Fk ?_
 repeat' first|(replace h:=qb h;obtain⟨d,g,h⟩:=h;with_reducible first|replace g:=Hr g|replace g:=RZ g|replace g:=zkh g|replace g:=j1u g|replace g:=jmc g|(replace g:=j2q O J a2 _ _ _ _ g;dsimp only[Tz,TA,zc]at g h)|skip)|(replace h:=qc h;rcases h with⟨g,h⟩|⟨g,h⟩)
 all_goals (cases h<;>(simp only[go_sem,seval,Fk,ji, *];exact⟨_,rfl⟩))
def f222 (O:av)(J:Int)(a2:aC):Option (av×Int):=
 qa (ql (O.units.getD []) J) fun v1=>
 qa (ql (a2.names.getD []) 1) fun v3=>
 qa (f83 O v3) fun v5=>
 cond (decide (v5<0))
  (Ga (O,10))
  (qa (ql (O.units.getD []) v5) fun v8=>
  cond (decide (v5=J))
   (Ga (O,9))
   (cond (decide (v1.product=v8.product))
    (cond (decide (v1.version=v8.version))
     (cond v1.ax
      (Ga (O,21))
      (cond v8.ax
       (Ga (O,21))
       (cond (decide (v1.partner=[]))
        (cond (decide (v8.partner=[]))
         (qa (f225 O J (⟨v1.name,v1.product,v1.version,v1.uses,v1.results,v8.name,En,v1.au⟩)) fun eF=>
         qa (f225 eF v5 (⟨v8.name,v8.product,v8.version,v8.uses,v8.results,v1.name,En,v8.au⟩)) fun ey=>
         Ga (ey,0))
         (Ga (O,35)))
        (Ga (O,35)))))
     (Ga (O,30)))
    (Ga (O,30))))
theorem zil {O J a2 r}(h:f222 O J a2=Ga r):ae pr (X pr) 222 [aR O,Iv J,aE a2]=Ga (.aI [aR r.1,Iv r.2],En):=by
 unfold f222 at h;refine jz Fl ?_
 repeat' first|(replace h:=qb h;obtain⟨d,g,h⟩:=h;with_reducible first|replace g:=QX g|replace g:=jmc g|skip)|(replace h:=qc h;rcases h with⟨g,h⟩|⟨g,h⟩)
 all_goals (cases h<;>(simp only[go_sem,seval,Fl,ji, *];exact⟨_,rfl⟩))
def Ab (O:av)(J:aC)(v3:Int)(v6:bz)(dK:cn)(V:Bool×Int):Option ((Bool×Int)⊕((Bool×Int))):=
 cond (decide (V.2<((dK.aS.getD []).length:Int)))
  (cond V.1
   (Ga (.inl (Hb,qd .i64 (V.2+1))))
   (qa (ql (dK.aS.getD []) V.2) fun v31=>
   qa (ql (J.names.getD []) 1) fun l8=>
   Ga (.inl (decide (v31.k=l8),qd .i64 (V.2+1)))))
  (Ga (.inr (V.1,V.2)))
def TC (O:av)(J:aC)(v3:Int)(v6:bz)(dK:cn)(V:Bool×Int):bg:=⟨[(2,.aq (aR O),En),(3,.aq (aE J),En),(4,.ptr 0 0,En),(6,Iv v3,En),(7,.ptr 1 0,En),(8,.aq (aD dK),En),(9,.bool V.1,En),(10,Iv V.2,En)],[kZ,.cells [(.str v6.name,En),(.str v6.product,En),(Iv v6.version,En),(sl 2 bD v6.uses,En),(sl 3 jb v6.results,En),(.str v6.partner,En),(.bool En,En),(Iv v6.au,En)]]⟩
def TD (O:av)(J:aC)(v3:Int)(v6:bz)(dK:cn)(d:(Bool×Int)):q9×bg:=(.exit 1,⟨[(2,.aq (aR O),En),(3,.aq (aE J),En),(4,.ptr 0 0,En),(6,Iv v3,En),(7,.ptr 1 0,En),(8,.aq (aD dK),En),(9,.bool d.1,En),(10,Iv d.2,En),(64,.bool En,En)],[kZ,.cells [(.str v6.name,En),(.str v6.product,En),(Iv v6.version,En),(sl 2 bD v6.uses,En),(sl 3 jb v6.results,En),(.str v6.partner,En),(.bool En,En),(Iv v6.au,En)]]⟩)
theorem jw1 (O:av)(J:aC)(v3:Int)(v6:bz)(dK:cn)(V:Bool×Int)(r)(h:Ab O J v3 v6 dK V=Ga r):jo pr TE (TC O J v3 v6 dK) (TD O J v3 v6 dK) V r:=by
 unfold Ab at h
 repeat' first|(replace h:=qb h;obtain⟨d,g,h⟩:=h)|(replace h:=qc h;rcases h with⟨g,h⟩|⟨g,h⟩)
 all_goals (cases h<;>((first|refine qn ?_|refine jr ?_);simp only[go_sem,seval,TE,TC,ji,TD, *]<;>rfl))
theorem jzk (O:av)(J:aC)(v3:Int)(v6:bz)(dK:cn){V d}(h:bd (Ab O J v3 v6 dK) V=Ga d):X pr (.loop TE) (TC O J v3 v6 dK V)=Ga (TD O J v3 v6 dK d):=zz (jw1 O J v3 v6 dK) h
def f155 (O:av)(J:aC):Option (av×Int):=
 qa (ql (J.names.getD []) 0) fun v1=>
 qa (f83 O v1) fun v3=>
 cond (decide (v3<0))
  (Ga (O,10))
  (qa (ql (O.units.getD []) v3) fun v6=>
  cond (decide (J.kind=([117,115,101]:aj)))
   (qa (f221 O v3 J) fun v9=>
   Ga (v9.1,v9.2))
   (cond (decide (J.kind=([112,97,105,114]:aj)))
    (qa (f222 O v3 J) fun v12=>
    Ga (v12.1,v12.2))
    (cond (decide (J.kind=([109,101,97,115,117,114,101]:aj)))
     (cond v6.ax
      (Ga (O,21))
      (qa (f157 O (⟨v6.name,v6.product,v6.version,v6.uses,v6.results,v6.partner,En,v6.au⟩)) fun dK=>
      qa (bd (Ab O J v3 v6 dK) (En,0)) fun d35=>
      cond d35.1
       (cond (decide (64<=((v6.results.getD []).length:Int)))
        (Ga (O,5))
        (qa (bB (Ga []) (v6.results.getD [])) fun l9=>
        qa (ql (J.names.getD []) 1) fun yA=>
        qa (ql (J.values.getD []) 1) fun Cw=>
        qa (bB l9 [⟨yA,v6.version,Cw⟩]) fun AJ=>
        qa (f225 O v3 (⟨v6.name,v6.product,v6.version,v6.uses,AJ,v6.partner,En,v6.au⟩)) fun v47=>
        Ga (v47,0)))
       (Ga (O,7))))
     (cond (decide (J.kind=([117,112,100,97,116,101]:aj)))
      (cond v6.ax
       (Ga (O,21))
       (qa (f223 O (⟨v6.name,v6.product,v6.version,v6.uses,v6.results,v6.partner,En,v6.au⟩)) fun v51=>
       cond (decide (v6.version=v51))
        (Ga (O,32))
        (qa (f225 O v3 (⟨v6.name,v6.product,v51,v6.uses,v6.results,v6.partner,En,v6.au⟩)) fun wD=>
        Ga (wD,0))))
      (cond (decide (J.kind=([115,104,105,112]:aj)))
       (qa (f224 O v6) fun Tx=>
       cond (decide (Tx=0))
        (qa (f225 O v3 (⟨v6.name,v6.product,v6.version,v6.uses,v6.results,v6.partner,Hb,v6.au⟩)) fun QV=>
        Ga (QV,0))
        (Ga (O,Tx)))
       (cond v6.ax
        (qa (f225 O v3 (⟨v6.name,v6.product,v6.version,v6.uses,v6.results,v6.partner,Hb,qd .i64 (v6.au+1)⟩)) fun v63=>
        Ga (v63,0))
        (Ga (O,20))))))))
theorem zj3 {O J r}(h:f155 O J=Ga r):ae pr (X pr) 155 [aR O,aE J]=Ga (.aI [aR r.1,Iv r.2],En):=by
 unfold f155 at h;refine jz Fm ?_
 repeat' first|(replace h:=qb h;obtain⟨d,g,h⟩:=h;with_reducible first|replace g:=QX g|replace g:=zd1 g|replace g:=zil g|replace g:=RZ g|replace g:=jmc g|replace g:=j3c g|replace g:=zfx g|replace g:=Gm g|(replace g:=jzk O J _ _ _ g;dsimp only[TC,TD,zc]at g h)|skip)|(replace h:=qc h;rcases h with⟨g,h⟩|⟨g,h⟩)
 all_goals (cases h<;>(simp only[go_sem,seval,Fm,ji,kr, *];exact⟨_,rfl⟩))
def f74 (O:av)(J:aC):Option (av×Int):=
 qa (ql (J.values.getD []) 0) fun v1=>
 cond (decide (v1<O.day))
  (Ga (O,20))
  (cond (decide (J.kind=([108,111,116]:aj)))
   (qa (f152 O J) fun v5=>
   Ga (⟨v1,v5.1.ay,v5.1.ah,v5.1.units⟩,v5.2))
   (cond (decide (J.kind=([112,114,111,100,117,99,116]:aj)))
    (qa (f152 O J) fun v8=>
    Ga (⟨v1,v8.1.ay,v8.1.ah,v8.1.units⟩,v8.2))
    (cond (decide (J.kind=([98,117,105,108,100]:aj)))
     (qa (f152 O J) fun v11=>
     Ga (⟨v1,v11.1.ay,v11.1.ah,v11.1.units⟩,v11.2))
     (cond (decide (J.kind=([110,101,101,100]:aj)))
      (qa (f153 O J) fun da=>
      Ga (⟨v1,da.1.ay,da.1.ah,da.1.units⟩,da.2))
      (cond (decide (J.kind=([116,101,115,116]:aj)))
       (qa (f153 O J) fun eF=>
       Ga (⟨v1,eF.1.ay,eF.1.ah,eF.1.units⟩,eF.2))
       (cond (decide (J.kind=([105,115,115,117,101]:aj)))
        (qa (f153 O J) fun v20=>
        Ga (⟨v1,v20.1.ay,v20.1.ah,v20.1.units⟩,v20.2))
        (cond (decide (J.kind=([104,111,108,100]:aj)))
         (qa (f154 O J) fun v23=>
         Ga (⟨v1,v23.1.ay,v23.1.ah,v23.1.units⟩,v23.2))
         (cond (decide (J.kind=([102,114,101,101]:aj)))
          (qa (f154 O J) fun v26=>
          Ga (⟨v1,v26.1.ay,v26.1.ah,v26.1.units⟩,v26.2))
          (qa (f155 O J) fun v28=>
          Ga (⟨v1,v28.1.ay,v28.1.ah,v28.1.units⟩,v28.2))))))))))
theorem W74 {O J r}(h:f74 O J=Ga r):ae pr (X pr) 74 [aR O,aE J]=Ga (.aI [aR r.1,Iv r.2],En):=by
 unfold f74 at h;refine jz c74 ?_
 repeat' first|(replace h:=qb h;obtain⟨d,g,h⟩:=h;with_reducible first|replace g:=zfn g|replace g:=zg2 g|replace g:=zf7 g|replace g:=zj3 g|skip)|(replace h:=qc h;rcases h with⟨g,h⟩|⟨g,h⟩)
 all_goals (cases h<;>(simp only[go_sem,seval,c74,ji, *];exact⟨_,rfl⟩))
end Go.Z
namespace Go.Z
open Go Go.Abs Go.W
def f41 (O:aC):Option Int:=
 qa (f124 O.number 1 1000) fun v1=>
 qa (f36 (!(lY O.kind)) 13) fun v3=>
 qa (f36 (!(decide (((O.names.getD []).length:Int)=((j9 O.kind).length:Int))&&decide (((O.values.getD []).length:Int)=(mN O.kind)))) 2) fun v5=>
 qa (f35 (Ga [v1,v3,v5])) fun v7=>
 cond (decide (v7=0))
  (qa (f125 O.names) fun v10=>
  qa (f127 O.values) fun v12=>
  qa (f35 v10.1) fun da=>
  qa (f35 v12.1) fun dK=>
  qa (f36 (!decide (O.text=[])) 1) fun eE=>
  qa (f35 (Ga [da,dK,eE])) fun v20=>
  Ga v20)
  (Ga v7)
theorem Lk {O r}(h:f41 O=Ga r):ae pr (X pr) 41 [aE O]=Ga (Iv r,En):=by
 unfold f41 at h;refine jz c41 ?_
 repeat' first|(replace h:=qb h;obtain⟨d,g,h⟩:=h; (with_reducible first|replace g:=Rr g|replace g:=dI g|replace g:=gC g|replace g:=zg1 g|replace g:=zke g|skip);try dsimp only[zc,n6,List.map,zf,qx,jf,qw,bI,zw,bK,bD,jb,yv,aE,aR,aU,aL,aP,aD]at g)|(replace h:=qc h;rcases h with⟨g,h⟩|⟨g,h⟩)
 all_goals (cases h<;>(simp only[go_sem,seval,c41,tL, *];exact⟨_,rfl⟩))
end Go.Z
namespace Go.Z
open Go Go.Abs Go.W
def rh (O:ak aC)(V:(ak aC)×(ak av)×Int×Bool×Bool):Option (((ak aC)×(ak av)×Int×Bool×Bool)⊕((Int×Int×Int×(ak jk)×(ak bw)×(ak bz))⊕((ak aC)×Bool×(ak av)×Bool×Int))):=
 cond (decide (V.2.2.1<((O.getD []).length:Int)))
  (qa (ql (O.getD []) V.2.2.1) fun v75=>
  qa (f73 v75) fun QW=>
  cond (decide (QW=0))
   (cond (decide (v75.number=(qd .i64 (V.2.2.1+1))))
    (cond (decide (v75.kind=([117,110,100,111]:aj)))
     (cond (decide (((V.1.getD []).length:Int)=0))
      (Ga (.inr (.inl (qd .i64 (V.2.2.1+1),12,0,Gd,Gd,Gd))))
      (qa (ql (V.1.getD []) (qd .i64 (((V.1.getD []).length:Int)-1))) fun v83=>
      cond (decide (v83.kind=([115,104,105,112]:aj)))
       (Ga (.inr (.inl (qd .i64 (V.2.2.1+1),19,0,Gd,Gd,Gd))))
       (qa (n8 V.1 Gd (Ga (qd .i64 (((V.1.getD []).length:Int)-1)))) fun v86=>
       qa (n8 V.2.1 Gd (Ga ((V.1.getD []).length:Int))) fun v88=>
       Ga (.inl (v86,v88,qd .i64 (V.2.2.1+1),En,En)))))
     (qa (ql (V.2.1.getD []) ((V.1.getD []).length:Int)) fun Ty=>
     qa (f74 Ty v75) fun Fo=>
     cond (decide (Fo.2=0))
      (qa (bB (Ga []) (V.1.getD [])) fun Lz=>
      qa (bB Lz [v75]) fun v97=>
      qa (bB (Ga []) (V.2.1.getD [])) fun CY=>
      qa (bB CY [Fo.1]) fun CZ=>
      Ga (.inl (v97,CZ,qd .i64 (V.2.2.1+1),Hb,Hb)))
      (Ga (.inr (.inl (qd .i64 (V.2.2.1+1),Fo.2,Fo.1.day,Fo.1.ay,Fo.1.ah,Fo.1.units))))))
    (Ga (.inr (.inl (qd .i64 (V.2.2.1+1),11,0,Gd,Gd,Gd)))))
   (Ga (.inr (.inl (qd .i64 (V.2.2.1+1),QW,0,Gd,Gd,Gd)))))
  (Ga (.inr (.inr (V.1,V.2.2.2.1,V.2.1,V.2.2.2.2,V.2.2.1))))
def AK (O:ak aC)(V:(ak aC)×(ak av)×Int×Bool×Bool):bg:=⟨[(0,sl 5 bK O,En),(3,.ptr 0 0,En),(6,sl 5 bK V.1,V.2.2.2.1),(7,sl 4 zw V.2.1,V.2.2.2.2),(8,Iv V.2.2.1,En)],[kZ]⟩
def HZ (O:ak aC):(Int×Int×Int×(ak jk)×(ak bw)×(ak bz))⊕((ak aC)×Bool×(ak av)×Bool×Int)->q9×bg
 | .inl d=>(.ret,⟨[(2,Nl,En),(3,.ptr 0 0,En),(4,Iv d.1,En),(5,Iv d.2.1,En)],[kZ,.cells [(Iv d.2.2.1,En),(sl 5 jf d.2.2.2.1,En),(sl 4 qw d.2.2.2.2.1,En),(sl 8 bI d.2.2.2.2.2,En)]]⟩)| .inr d=>(.exit 0,⟨[(0,sl 5 bK O,En),(3,.ptr 0 0,En),(6,sl 5 bK d.1,d.2.1),(7,sl 4 zw d.2.2.1,d.2.2.2.1),(8,Iv d.2.2.2.2,En),(21,.bool En,En)],[kZ]⟩)
theorem j5r (O:ak aC)(V:(ak aC)×(ak av)×Int×Bool×Bool)(r)(h:rh O V=Ga r):jo pr H0 (AK O) (HZ O) V r:=by
 unfold rh at h
 repeat' first|(replace h:=qb h;obtain⟨d,g,h⟩:=h;with_reducible first|replace g:=ZV g|replace g:=W74 g|replace g:=jzg g|replace g:=jio g|replace g:=jt1 g|skip)|(replace h:=qc h;rcases h with⟨g,h⟩|⟨g,h⟩)
 all_goals (cases h<;>(first|(refine qn ?_;simp only[go_sem,seval,H0,AK,ji,HZ,kr, *]<;>rfl)|(refine jr ?_;simp only[go_sem,seval,H0,AK,ji,HZ,kr, *]<;>rfl)|(refine jcu ?_ rfl (by first|simp only[go_sem,seval,AK]|rfl) (by first|simp only[go_sem,seval,AK]|rfl);simp only[go_sem,seval,H0,AK,ji,HZ,kr, *];exact⟨_,rfl⟩)))
theorem j6u (O:ak aC){V d}(h:bd (rh O) V=Ga d):X pr (.loop H0) (AK O V)=Ga (HZ O d):=zz (j5r O) h
def f28 (O:ak aC):Option ((ak aC)×av×Int×Int):=
 cond (decide (1000<((O.getD []).length:Int)))
  (Ga (Gd,⟨0,Gd,Gd,Gd⟩,0,5))
  (qa (bd (rh O) (Gd,Ga [⟨0,Gd,Gd,Gd⟩],0,En,Hb)) fun d103=>match d103 with
   | .inl d105=>
    Ga (Gd,⟨0,Gd,Gd,Gd⟩,d105.1,d105.2.1)
   | .inr d106=>
    qa (ql (d106.2.2.1.getD []) ((d106.1.getD []).length:Int)) fun v107=>
    Ga (d106.1,v107,0,0))
theorem W28 {O r}(h:f28 O=Ga r):ae pr (X pr) 28 [sl 5 bK O]=Ga (.aI [sl 5 bK r.1,aR r.2.1,Iv r.2.2.1,Iv r.2.2.2],En):=by
 unfold f28 at h;refine jz c28 ?_
 repeat' first|(replace h:=qb h;obtain⟨d,g,h⟩:=h; (with_reducible first|(replace g:=j6u O g;rcases d with d|d<;>dsimp only[AK,HZ,zc,n6,List.map,zf,qx,jf,qw,bI,zw,bK,bD,jb,yv]at g h)|skip);try dsimp only[zc,n6,List.map,zf,qx,jf,qw,bI,zw,bK,bD,jb,yv,aE,aR,aU,aL,aP,aD]at g)|(replace h:=qc h;rcases h with⟨g,h⟩|⟨g,h⟩)
 all_goals (cases h<;>(simp only[go_sem,seval,c28,ji, *];exact⟨_,rfl⟩))
def f8 (O:ak aC):Option (av×Int×Int):=
 qa (f28 O) fun v1=>
 Ga (v1.2.1,v1.2.2.1,v1.2.2.2)
theorem W8 {O r}(h:f8 O=Ga r):ae pr (X pr) 8 [sl 5 bK O]=Ga (.aI [aR r.1,Iv r.2.1,Iv r.2.2],En):=by
 unfold f8 at h;refine jz c8 ?_
 repeat' first|(replace h:=qb h;obtain⟨d,g,h⟩:=h;with_reducible first|replace g:=W28 g|skip)|(replace h:=qc h;rcases h with⟨g,h⟩|⟨g,h⟩)
 all_goals (cases h<;>(simp only[go_sem,seval,c8, *];exact⟨_,rfl⟩))
def f33 (O:ak aC)(J:aC):Option Int:=
 qa (f8 O) fun v1=>
 cond (decide (v1.2.2=0))
  (qa (f73 J) fun v4=>
  cond (decide (v4=0))
   (cond (decide (1000<=((O.getD []).length:Int)))
    (Ga 5)
    (qa (bB (Ga []) (O.getD [])) fun v8=>
    qa (bB v8 [J]) fun v10=>
    qa (f8 v10) fun v12=>
    Ga v12.2.2))
   (Ga v4))
  (Ga v1.2.2)
theorem W33 {O J r}(h:f33 O J=Ga r):ae pr (X pr) 33 [sl 5 bK O,aE J]=Ga (Iv r,En):=by
 unfold f33 at h;refine jz c33 ?_
 repeat' first|(replace h:=qb h;obtain⟨d,g,h⟩:=h;with_reducible first|replace g:=W8 g|replace g:=ZV g|replace g:=jio g|skip)|(replace h:=qc h;rcases h with⟨g,h⟩|⟨g,h⟩)
 all_goals (cases h<;>(simp only[go_sem,seval,c33,kr, *];exact⟨_,rfl⟩))
end Go.Z
namespace Go.Z
open Go Go.Abs Go.W
def jgt (O:bG)(e0:List (aj×Int)):Option Bool:=
 Ga (decide ((og e0 O.k)<O.n))
theorem j5q {O e0 r}(h:jgt O e0=Ga r):ai pr (X pr) 266 [aN O,.aq (.map 0)] [.map (eZ e0)]=Ga (.bool r,En,[.map (eZ e0)]):=by
 unfold jgt at h;have Q:decide ((og e0 O.k)<O.n)=r:=Ga.inj h;subst Q;rw[qg (show pr.br 266=Ga Fp from rfl) (by simp)];simp only[go_sem,seval,Fp,jrz]<;>rfl
def TF (O:ak bG)(e0:List (aj×Int))(V:Int):Option (Int⊕(Int⊕Int)):=
 cond (decide (V<((O.getD []).length:Int)))
  (qa (ql (O.getD []) V) fun da=>
  qa (jgt da e0) fun dK=>
  cond dK
   (Ga (.inr (.inl V)))
   (Ga (.inl (qd .i64 (V+1)))))
  (Ga (.inr (.inr V)))
def TG (O:ak bG)(e0:List (aj×Int))(V:Int):bg:=⟨[(0,sl 2 bD O,En),(1,.fn (.func 266) [] [.aq (.map 0)],En),(7,Lv O,En),(8,Iv V,En)],[.map (eZ e0)]⟩
def TH (O:ak bG)(e0:List (aj×Int)):Int⊕Int->q9×bg
 | .inl d=>(.ret,⟨[(4,Iv d,En)],[.map (eZ e0)]⟩)| .inr d=>(.exit 0,⟨[(0,sl 2 bD O,En),(1,.fn (.func 266) [] [.aq (.map 0)],En),(7,Lv O,En),(8,Iv d,En),(9,.bool En,En)],[.map (eZ e0)]⟩)
theorem ju5 (O:ak bG)(e0:List (aj×Int))(V:Int)(r)(h:TF O e0 V=Ga r):jo pr rO (TG O e0) (TH O e0) V r:=by
 unfold TF at h
 repeat' first|(replace h:=qb h;obtain⟨d,g,h⟩:=h;with_reducible first|replace g:=j5q g|skip)|(replace h:=qc h;rcases h with⟨g,h⟩|⟨g,h⟩)
 all_goals (cases h<;>((first|refine qn ?_|refine jr ?_);simp only[go_sem,seval,rO,TG,ji,TH, *]<;>rfl))
theorem jvq (O:ak bG)(e0:List (aj×Int)){V d}(h:bd (TF O e0) V=Ga d):X pr (.loop rO) (TG O e0 V)=Ga (TH O e0 d):=zz (ju5 O e0) h
def Kh (O:ak bG)(e0:List (aj×Int)):Option Int:=
 qa (bd (TF O e0) 0) fun d19=>match d19 with
  | .inl d21=>
   Ga d21
  | .inr d22=>
   Ga (-1)
theorem j8d {O e0 r}(h:Kh O e0=Ga r):ai pr (X pr) 228 [sl 2 bD O,.fn (.func 266) [] [.aq (.map 0)]] [.map (eZ e0)]=Ga (Iv r,En,[.map (eZ e0)]):=by
 unfold Kh at h;rw[qg (show pr.br 228=Ga mf from rfl) (by simp)]
 repeat' first|(replace h:=qb h;obtain⟨d,g,h⟩:=h;with_reducible first|(replace g:=jvq O e0 g;rcases d with d|d<;>dsimp only[TG,TH,zc]at g h)|skip)|(replace h:=qc h;rcases h with⟨g,h⟩|⟨g,h⟩)
 all_goals (cases h<;>(simp only[go_sem,seval,mf, *]<;>rfl))
def Kg (O:ak bG)(e0:List (aj×Int)):Option Bool:=
 qa (Kh O e0) fun v1=>
 Ga (decide (0<=v1))
theorem j7o {O e0 r}(h:Kg O e0=Ga r):ai pr (X pr) 172 [sl 2 bD O,.fn (.func 266) [] [.aq (.map 0)]] [.map (eZ e0)]=Ga (.bool r,En,[.map (eZ e0)]):=by
 unfold Kg at h;obtain⟨v1,I,h⟩:=qb h;have lC:ai pr (X pr) 228 [sl 2 bD O,.fn (.func 266) [] [.aq (.map 0)]] [.map (eZ e0)]=Ga (Iv v1,En,[.map (eZ e0)]):=j8d I;have Q:decide (0<=v1)=r:=Ga.inj h;subst Q;rw[qg (show pr.br 172=Ga pn from rfl) (by simp)];simp only[go_sem,seval,pn,lC]<;>rfl
def f102 (O:jk):Option Bool:=
 Ga O.held
theorem zc5 (hp:qh){O r}(h:f102 O=Ga r):ai pr (X pr) 102 [aL O] hp=Ga (.bool r,En,hp):=by
 unfold f102 at h;have Q:O.held=r:=Ga.inj h;subst Q;rw[qg (show pr.br 102=Ga Fq from rfl) (by simp)];simp only[go_sem,seval,Fq]<;>rfl
def Gw (O:ak jk)(V:(ak jk)×Int×Bool):Option (((ak jk)×Int×Bool)⊕(((ak jk)×Bool×Int))):=
 cond (decide (V.2.1<((O.getD []).length:Int)))
  (qa (ql (O.getD []) V.2.1) fun v20=>
  qa (f102 v20) fun v22=>
  cond v22
   (cond V.2.2
    (qa (bB V.1 [v20]) fun v26=>
    Ga (.inl (v26,qd .i64 (V.2.1+1),Hb)))
    (cond V.1.isNone
     (qa (bB V.1 [v20]) fun dJ=>
     Ga (.inl (dJ,qd .i64 (V.2.1+1),Hb)))
     (Gd)))
   (Ga (.inl (V.1,qd .i64 (V.2.1+1),V.2.2))))
  (Ga (.inr (V.1,V.2.2,V.2.1)))
def TI (O:ak jk)(V:(ak jk)×Int×Bool):bg:=⟨[(1,.fn (.func 102) [] [],En),(5,sl 5 jf V.1,V.2.2),(8,sl 5 jf O,En),(9,Lv O,En),(10,Iv V.2.1,En)],[]⟩
def TJ (O:ak jk)(d:((ak jk)×Bool×Int)):q9×bg:=(.exit 0,⟨[(1,.fn (.func 102) [] [],En),(5,sl 5 jf d.1,d.2.1),(8,sl 5 jf O,En),(9,Lv O,En),(10,Iv d.2.2,En),(11,.bool En,En)],[]⟩)
theorem jwj (O:ak jk)(V:(ak jk)×Int×Bool)(r)(h:Gw O V=Ga r):jo pr TK (TI O) (TJ O) V r:=by
 unfold Gw at h
 repeat' first|(replace h:=qb h;obtain⟨d,g,h⟩:=h;with_reducible first|replace g:=zc5 [] g|replace g:=WL g|skip)|(replace h:=qc h;rcases h with⟨g,h⟩|⟨g,h⟩)
 all_goals (cases h<;>((first|refine qn ?_|refine jr ?_);simp only[go_sem,seval,TK,TI,ji,TJ, *]<;>rfl))
theorem jz1 (O:ak jk){V d}(h:bd (Gw O) V=Ga d):X pr (.loop TK) (TI O V)=Ga (TJ O d):=zz (jwj O) h
def f101 (O:ak jk):Option ((ak jk)×Bool):=
 qa (bd (Gw O) (Gd,0,En)) fun d31=>
 Ga (d31.1,d31.2.1)
theorem jy4 {O r}(h:f101 O=Ga r):ae pr (X pr) 101 [sl 5 jf O,.fn (.func 102) [] []]=Ga (sl 5 jf r.1,r.2):=by
 unfold f101 at h;refine yc Fs ?_
 repeat' first|(replace h:=qb h;obtain⟨d,g,h⟩:=h;with_reducible first|(replace g:=jz1 O g;dsimp only[TI,TJ,zc]at g h)|skip)|(replace h:=qc h;rcases h with⟨g,h⟩|⟨g,h⟩)
 all_goals (cases h<;>(simp only[go_sem,seval,Fs, *];exact⟨_,rfl⟩))
end Go.Z
namespace Go.Z
open Go Go.Abs Go.W
def nN:bn->bn
 | .seq a _=>a|x=>x
def jB:bn->bn
 | .seq _ b=>b|x=>x
def Ft:bn->bn
 | .block _ b=>b|x=>x
def TL:bn->bn
 | .rangeFunc _ _ a _=>a|x=>x
def Mc:bn->bn
 | .rangeFunc _ _ _ b=>b|x=>x
theorem kx {n v h t}(hn:h.length=n)(hv:Abs.below n v=Hb)(hb:qt n h=Hb):qz n v (h++t)=h:=by
 have ht:(h++t).take n=h:=by rw[<-hn,List.take_left'];rfl
 unfold qz;rw[ht,hv,hb]
 cases hc:Nat.ble (h++t).length n with
 |true=>
  have:=Nat.le_of_ble_eq_true hc;rw[List.length_append,hn]at this;have:t=[]:=List.eq_nil_of_length_eq_zero (by omega);subst this;simp
 |false=>rfl
theorem zp {n v h}(hn:h.length=n):qz n v h=h:=by
 unfold qz;rw[Hq (by omega)];rfl
section
variable {σ:Type}(r:av)(u:bz)(H:σ->qh)(step:σ->jk->Int->Option σ)
def qW (x:Int×σ):Option ((Int×σ)⊕(Int×σ)):=
 cond (decide (x.1<((u.uses.getD []).length:Int)))
  (qa (ql (u.uses.getD []) x.1) fun s=>qa (f58 r s.k) fun v=>qa (ql (r.ay.getD []) v) fun l=>qa (step x.2 l s.n) fun y=>Ga (.inl (qd .i64 (x.1+1),y)))
  (Ga (.inr x))
def H3 (x:Int×σ):bg:=⟨[(0,.fn (.yield 1) [] [],En),(2,.aq (aR r),En),(7,sl 2 bD u.uses,En),(8,Lv u.uses,En),(9,Iv x.1,En)],H x.2⟩
def TM (x:Int×σ):q9×bg:=(.exit 0,⟨[(0,.fn (.yield 1) [] [],En),(2,.aq (aR r),En),(7,sl 2 bD u.uses,En),(8,Lv u.uses,En),(9,Iv x.1,En),(10,.bool En,En)],H x.2⟩)
theorem zii (hy:∀x l n y,step x l n=Ga y->lG (X pr) 1 [aL l,Iv n] (H x)=Ga (.bool Hb,H y))(hl:∀x,(H x).length=2)(x:Int×σ)(q)(h:qW r u step x=Ga q):jo pr Md (H3 r u H) (TM r u H) x q:=by
 unfold qW at h;rcases qc h with⟨Y,h⟩|⟨Y,h⟩
 .obtain⟨s,I,h⟩:=qb h;obtain⟨v,h3,h⟩:=qb h;obtain⟨l,h4,h⟩:=qb h;obtain⟨y,h5,h⟩:=qb h;cases h;have g:=hy _ _ _ _ h5;have w:=Dk h3;exact z5 (bH:=H3 r u H (qd .i64 (x.1+1),y)) (by simp only[go_sem,seval,Md,H3,Y,jn I,w,jn h4,g]<;>rfl) (yg (by show(H y).length<=(H x.2).length;rw[hl,hl];exact Nat.le_refl _))
 .cases h;exact qn (by simp only[go_sem,seval,Md,H3,Y,TM]<;>rfl)
theorem j08 {r:av}{u:bz}{H:σ->qh}{step:σ->jk->Int->Option σ}(hy:∀x l n y,step x l n=Ga y->lG (X pr) 1 [aL l,Iv n] (H x)=Ga (.bool Hb,H y))(hl:∀x,(H x).length=2){x0 d}(h:bd (qW r u step) (0,x0)=Ga d):ai pr (X pr) 265 [.fn (.yield 1) [] [],.aq (aU u),.aq (aR r)] (H x0)=Ga (.aI [],En,H d.2):=by
 have Y:X pr (.loop Md) (H3 r u H (0,x0))=Ga (TM r u H d):=kz (zii r u H step hy hl) (fun d=>by intro hh;cases hh) h;rw[qg (show pr.br 265=Ga Fu from rfl) (by simp)];simp only[H3,TM]at Y;simp only[go_sem,seval,Fu,Y]<;>rfl
end
def yE:bn:=Ft (jB (nN (jB (jB kW.body))))
def uL:bn:=TL yE
def sL:bn:=Mc yE
theorem jt7:yE=.rangeFunc (.tmp 9) [10,11] uL sL:=rfl
def nO (r:av)(u:bz):Env:=[(2,.aq (aR r),En),(3,.aq (aU u),En),(5,.ptr 0 0,En),(9,.fn (.func 265) [] [.aq (aU u),.aq (aR r)],En)]
def Fv (o:ak jk):qh:=[.cells [(sl 5 jf o,o.isSome)]]
def kX (r:av)(u:bz)(pd:Option q9)(o:ak jk):qh:=[.cells [(sl 5 jf o,o.isSome)],.loop ⟨nO r u,[10,11],uL,sL,pd⟩]
def jpa (r:av)(u:bz)(l:jk)(n:Int):Env:=(([10,11][1]),Iv n,En)::(([10,11][0]),aL l,En)::nO r u
def TN (r:av)(u:bz)(l:jk)(n:Int):Env:=[(2,.aq (aR r),En),(3,.aq (aU u),En),(5,.ptr 0 0,En),(6,.aq (aL l),En)]
theorem zft {r u l n}:wQ (fR (nO r u)) [10,11] [aL l,Iv n]=Ga (jpa r u l n):=rfl
theorem jng {r u l n H}:X pr uL ⟨jpa r u l n,H⟩=Ga (.normal,⟨TN r u l n,H⟩):=by
 simp only[go_sem,seval,uL,TL,yE,Ft,nN,jB,kW,jpa,nO,List.getElem_cons_zero,List.getElem_cons_succ]<;>rfl
def zR (o:ak jk)(l:jk)(_:Int):Option (ak jk):=bB o [l]
theorem jlg {r u l n pd o o'}(ho:zR o l n=Ga o'):∃e t,X pr sL ⟨TN r u l n,kX r u pd o⟩=Ga (.normal,⟨e,kX r u pd o'++t⟩):=by
 unfold zR at ho
 have G:o'.isSome=Hb:=by
  cases o' with
  |some _=>rfl|none=>cases o<;>simp[bB,zT]at ho
 cases o with
 |none=>
  have ap:=fun(b:Nat) (h:qh) (bb:Bool)=>q07 (b:=b) (h:=h) (bb:=bb) ho rfl;simp only[go_sem,seval,sL,Mc,yE,Ft,nN,jB,kW,TN,kX,ap,Option.isSome_none,G];exact⟨_,_,rfl⟩
 |some o=>
  have ap:=fun(b t:Nat) (h:qh) (bb:Bool)=>q0n (b:=b) (t:=t) (h:=h) (bb:=bb) ho;simp only[go_sem,seval,sL,Mc,yE,Ft,nN,jB,kW,TN,kX,ap,Option.isSome_some,G];exact⟨_,_,rfl⟩
theorem jim {r u pd o}:qt 2 (kX r u pd o)=Hb:=by
 simp only[go_sem,seval,kX,qt,zj,zq,mT,nO]<;>rfl
theorem y75 {r u l n o o'}(ho:zR o l n=Ga o'):lG (X pr) 1 [aL l,Iv n] (kX r u Gd o)=Ga (.bool Hb,kX r u Gd o'):=by
 have g:∀o pd t,zh (kX r u pd o++t) 1=Ga (.loop ⟨nO r u,[10,11],uL,sL,pd⟩):=fun _ _ _=>rfl;have g0:∀o pd,zh (kX r u pd o) 1=Ga (.loop ⟨nO r u,[10,11],uL,sL,pd⟩):=fun _ _=>rfl;have st:∀o pd uP t,(kX r u pd o++t).set 1 (.loop ⟨nO r u,[10,11],uL,sL,uP⟩)=kX r u uP o++t:=fun _ _ _ _=>rfl;have st0:∀o pd uP,(kX r u pd o).set 1 (.loop ⟨nO r u,[10,11],uL,sL,uP⟩)=kX r u uP o:=fun _ _ _=>rfl;have hl:∀o pd,(kX r u pd o).length=2:=fun _ _=>rfl;have ha:∀o pd v t,Abs.below 2 v=Hb->qz 2 v (kX r u pd o++t)=kX r u pd o:=fun _ _ _ _ hv=>kx rfl hv jim;obtain⟨e,t,M⟩:=jlg (r:=r) (u:=u) (n:=n) (pd:=Ga .normal) ho;unfold lG;simp only[g0,zft,jng,H2,cond_true,st0,hl,M,g,st];rw[ha _ _ _ _ rfl]
theorem jtx {r:av}{u:bz}{o:ak jk}{d}(h:bd (qW r u zR) (0,o)=Ga d):X pr yE ⟨nO r u,Fv o⟩=Ga (.normal,⟨nO r u,Fv d.2⟩):=by
 have Y:=j08 (H:=kX r u Gd) (fun x l n y G=>y75 G) (fun _=>rfl) h
 have hb:∀o,qt 1 (Fv o)=Hb:=by
  intro o;simp only[go_sem,seval,Fv,qt,zj,zq]<;>rfl
 rw[jt7,OJ];unfold mG;have hn:(zr uL&&zr sL)=Hb:=rfl;have he:qi (nO r u) (.tmp 9)=Ga (.fn (.func 265) [] [.aq (aU u),.aq (aR r)]):=rfl;have hl:∀o,(Fv o).length=1:=fun _=>rfl;have ik:∀o,Fv o++[.loop ⟨nO r u,[10,11],uL,sL,Gd⟩]=kX r u Gd o:=fun _=>rfl;have hg:∀o,zh (kX r u Gd o) 1=Ga (.loop ⟨nO r u,[10,11],uL,sL,Gd⟩):=fun _=>rfl;have ht:∀o,(kX r u Gd o).take 1=Fv o:=fun _=>rfl;simp only[hn,cond_true,he,hl,List.nil_append,List.cons_append,ik,Y,hg,ht,hb]
def AL:bn:=Ft (jB (nN (jB (jB mr.body))))
def uQ:bn:=TL AL
def uZ:bn:=Mc AL
theorem joa:AL=.rangeFunc (.tmp 11) [12,13] uQ uZ:=rfl
def nP (r:av)(u:bz):Env:=[(2,.aq (aR r),En),(3,.aq (aU u),En),(5,.aq (.map 0),En),(11,.fn (.func 265) [] [.aq (aU u),.aq (aR r)],En)]
def Fw (o:List (aj×Int)):qh:=[.map (eZ o)]
def lE (r:av)(u:bz)(pd:Option q9)(o:List (aj×Int)):qh:=[.map (eZ o),.loop ⟨nP r u,[12,13],uQ,uZ,pd⟩]
def jgs (r:av)(u:bz)(l:jk)(n:Int):Env:=(([12,13][1]),Iv n,En)::(([12,13][0]),aL l,En)::nP r u
def jd4 (r:av)(u:bz)(l:jk)(n:Int):Env:=[(2,.aq (aR r),En),(3,.aq (aU u),En),(5,.aq (.map 0),En),(6,.aq (aL l),En),(7,Iv n,En)]
theorem j8n {r u l n}:wQ (fR (nP r u)) [12,13] [aL l,Iv n]=Ga (jgs r u l n):=rfl
theorem jjl {r u l n H}:X pr uQ ⟨jgs r u l n,H⟩=Ga (.normal,⟨jd4 r u l n,H⟩):=by
 simp only[go_sem,seval,uQ,TL,AL,Ft,nN,jB,mr,jgs,nP,List.getElem_cons_zero,List.getElem_cons_succ]<;>rfl
def xt (o:List (aj×Int))(l:jk)(n:Int):Option (List (aj×Int)):=Ph o l.kind (qd .i64 (og o l.kind+n))
theorem jkv {r u l n pd o o'}(ho:xt o l n=Ga o'):∃e t,X pr uZ ⟨jd4 r u l n,lE r u pd o⟩=Ga (.normal,⟨e,lE r u pd o'++t⟩):=by
 unfold xt at ho;simp only[go_sem,seval,uZ,Mc,AL,Ft,nN,jB,mr,jd4,lE,jrz,j2g ho];exact⟨_,_,rfl⟩
theorem jg3 {r u pd o}:qt 2 (lE r u pd o)=Hb:=by
 simp only[go_sem,seval,lE,qt,zj,zq,mT,nP]<;>rfl
theorem ze3 {r u l n o o'}(ho:xt o l n=Ga o'):lG (X pr) 1 [aL l,Iv n] (lE r u Gd o)=Ga (.bool Hb,lE r u Gd o'):=by
 have g:∀o pd t,zh (lE r u pd o++t) 1=Ga (.loop ⟨nP r u,[12,13],uQ,uZ,pd⟩):=fun _ _ _=>rfl;have g0:∀o pd,zh (lE r u pd o) 1=Ga (.loop ⟨nP r u,[12,13],uQ,uZ,pd⟩):=fun _ _=>rfl;have st:∀o pd uP t,(lE r u pd o++t).set 1 (.loop ⟨nP r u,[12,13],uQ,uZ,uP⟩)=lE r u uP o++t:=fun _ _ _ _=>rfl;have st0:∀o pd uP,(lE r u pd o).set 1 (.loop ⟨nP r u,[12,13],uQ,uZ,uP⟩)=lE r u uP o:=fun _ _ _=>rfl;have hl:∀o pd,(lE r u pd o).length=2:=fun _ _=>rfl;have ha:∀o pd v t,Abs.below 2 v=Hb->qz 2 v (lE r u pd o++t)=lE r u pd o:=fun _ _ _ _ hv=>kx rfl hv jg3;obtain⟨e,t,M⟩:=jkv (r:=r) (u:=u) (n:=n) (pd:=Ga .normal) ho;unfold lG;simp only[g0,j8n,jjl,H2,cond_true,st0,hl,M,g,st];rw[ha _ _ _ _ rfl]
theorem jm2 {r:av}{u:bz}{o:List (aj×Int)}{d}(h:bd (qW r u xt) (0,o)=Ga d):X pr AL ⟨nP r u,Fw o⟩=Ga (.normal,⟨nP r u,Fw d.2⟩):=by
 have Y:=j08 (H:=lE r u Gd) (fun x l n y G=>ze3 G) (fun _=>rfl) h
 have hb:∀o,qt 1 (Fw o)=Hb:=by
  intro o;simp only[go_sem,seval,Fw,qt,zj,zq]<;>rfl
 rw[joa,OJ];unfold mG;have hn:(zr uQ&&zr uZ)=Hb:=rfl;have he:qi (nP r u) (.tmp 11)=Ga (.fn (.func 265) [] [.aq (aU u),.aq (aR r)]):=rfl;have hl:∀o,(Fw o).length=1:=fun _=>rfl;have ik:∀o,Fw o++[.loop ⟨nP r u,[12,13],uQ,uZ,Gd⟩]=lE r u Gd o:=fun _=>rfl;have hg:∀o,zh (lE r u Gd o) 1=Ga (.loop ⟨nP r u,[12,13],uQ,uZ,Gd⟩):=fun _=>rfl;have ht:∀o,(lE r u Gd o).take 1=Fw o:=fun _=>rfl;simp only[hn,cond_true,he,hl,List.nil_append,List.cons_append,ik,Y,hg,ht,hb]
end Go.Z
namespace Go.Z
open Go Go.Abs Go.W
theorem j27 {hp r u}:ai pr (X pr) 245 [aR r,aU u] hp=Ga (.fn (.func 265) [] [.aq (aU u),.aq (aR r)],En,hp):=by
 rw[qg (show pr.br 245=Ga Fx from rfl) (by simp)];simp only[go_sem,seval,Fx]<;>rfl
def f246 (r:av)(u:bz):Option Bool:=
 qa (bd (qW r u xt) (0,[])) fun d=>qa (f161 r u) fun doc=>qa (Kg doc.bh d.2) fun b=>Ga (!b)
def jk8:bn:=nN mr.body
def jke:bn:=nN (jB mr.body)
def jhw:bn:=nN (nN (jB (jB mr.body)))
def jjj:bn:=jB (jB (jB mr.body))
theorem zdk {r u q}(h:f246 r u=Ga q):ae pr (X pr) 246 [aR r,aU u]=Ga (.bool q,En):=by
 unfold f246 at h;obtain⟨d,Y,h⟩:=qb h;obtain⟨doc,I,h⟩:=qb h;obtain⟨b,h3,h⟩:=qb h;cases h;have M:X pr AL ⟨nP r u,[.map []]⟩=Ga (.normal,⟨nP r u,[.map (eZ d.2)]⟩):=jm2 Y;have w1:=j27 (hp:=[.map []]) (r:=r) (u:=u);have ha:qz 1 (.fn (.func 265) [] [.aq (aU u),.aq (aR r)]) ([.map []]:qh)=[.map []]:=zp rfl;have w2:ae pr (X pr) 161 [aR r,aU u]=Ga (aD doc,En):=Sx I;have w3:=j7o h3;have hb:qz 1 (.bool b) ([.map (eZ d.2)]:qh)=[.map (eZ d.2)]:=zp rfl
 have this:∃hh,ai pr (X pr) 246 [aR r,aU u] []=Ga (.bool (!b),En,hh):=by
  rw[qg (show pr.br 246=Ga ⟨27,.seq jk8 (.seq jke (.seq (.seq jhw (.block 0 AL)) jjj)),[.tmp 4]⟩from rfl) (by simp)];simp only[nP]at M;simp only[go_sem,seval,jk8,jke,jhw,jjj,nN,jB,mr,w1,ha,w2,w3,hb,M];exact⟨_,rfl⟩
 obtain⟨hh,this⟩:=this;exact je rfl this (by first|rfl|simp only[go_sem,seval]) (by first|rfl|simp only[go_sem,seval])
def f204 (r:av)(u:bz):Option Int:=
 qa (bd (qW r u zR) (0,Gd)) fun d=>qa (f36 u.ax 21) fun e1=>qa (f198 r u) fun lt=>qa (f36 (!decide (u.version=lt)) 32) fun e2=>qa (f246 r u) fun c=>qa (f36 (!c) 20) fun e3=>
 qa (f91 r u) fun m=>qa (f36 (decide (0<((m.1.getD []).length:Int))) 31) fun e4=>qa (f101 d.2) fun hd=>qa (f36 (decide (0<((hd.1.getD []).length:Int))) 34) fun e5=>f35 (Ga [e1,e2,e3,e4,e5])
def jr5:bn:=nN kW.body
def jrj:bn:=nN (jB kW.body)
def jri:bn:=nN (nN (jB (jB kW.body)))
def jr2:bn:=jB (jB (jB kW.body))
theorem zkz {r u q}(h:f204 r u=Ga q):ae pr (X pr) 204 [aR r,aU u]=Ga (Iv q,En):=by
 unfold f204 at h;obtain⟨d,Y,h⟩:=qb h;obtain⟨e1,g1,h⟩:=qb h;obtain⟨lt,I,h⟩:=qb h;obtain⟨e2,g2,h⟩:=qb h;obtain⟨c,h3,h⟩:=qb h;obtain⟨e3,g3,h⟩:=qb h;obtain⟨m,h4,h⟩:=qb h;obtain⟨e4,g4,h⟩:=qb h;obtain⟨hd,h5,h⟩:=qb h;obtain⟨e5,g5,h⟩:=qb h;have M:X pr yE ⟨nO r u,[.cells [(Nl,En)]]⟩=Ga (.normal,⟨nO r u,[.cells [(sl 5 jf d.2,d.2.isSome)]]⟩):=jtx Y;have w1:=j27 (hp:=[.cells [(Nl,En)]]) (r:=r) (u:=u);have ha:qz 1 (.fn (.func 265) [] [.aq (aU u),.aq (aR r)]) ([.cells [(Nl,En)]]:qh)=[.cells [(Nl,En)]]:=zp rfl;have k1:=dI g1;have w2:ae pr (X pr) 198 [aR r,aU u]=Ga (Iv lt,En):=jzu I;have k2:=dI g2;have w3:=zdk h3;have k3:=dI g3;have w4:ae pr (X pr) 91 [aR r,aU u]=Ga (sl 1 qx m.1,m.2):=W91 h4;have k4:=dI g4;have w5:=jy4 h5;have k5:=dI g5;have k6:ae pr (X pr) 35 [.list En 1 [Iv e1,Iv e2,Iv e3,Iv e4,Iv e5]]=Ga (Iv q,En):=gC h
 have this:∃hh,ai pr (X pr) 204 [aR r,aU u] []=Ga (Iv q,En,hh):=by
  rw[qg (show pr.br 204=Ga ⟨44,.seq jr5 (.seq jrj (.seq (.seq jri (.block 0 yE)) jr2)),[.tmp 4]⟩from rfl) (by simp)];simp only[nO]at M;simp only[go_sem,seval,jr5,jrj,jri,jr2,nN,jB,kW,w1,ha,k1,w2,k2,w3,k3,w4,k4,w5,k5,k6,M];exact⟨_,rfl⟩
 obtain⟨hh,this⟩:=this;exact je rfl this (by first|rfl|simp only[go_sem,seval]) (by first|rfl|simp only[go_sem,seval])
end Go.Z
namespace Go.Z
open Go Go.Abs Go.W
def f118 (J:aC)(bp:Int)(bj:ak jk)(bf:ak bw)(aK:ak bz):Option (Int×(ak bz)):=
 qa (ql (J.names.getD []) 0) fun v1=>
 qa (f69 (⟨bp,bj,bf,aK⟩) v1) fun v3=>
 qa (ql (aK.getD []) v3) fun v5=>
 qa (f204 (⟨bp,bj,bf,aK⟩) v5) fun v7=>
 cond (decide (v7=0))
  (qa (Xe aK v3) fun v10=>
  Ga (0,v10))
  (Ga (v7,aK))
theorem zdy {J bp bj bf aK x1 x2 x3 r}(h:f118 J bp bj bf aK=Ga r):ai pr (X pr) 118 [.ptr 0 0,aE J] [kR bp bj bf aK,x1,x2,x3]=Ga (Iv r.1,En,[kR bp bj bf r.2,x1,x2,x3]):=by
 unfold f118 at h;rw[qg (show pr.br 118=Ga Fy from rfl) (by simp)]
 repeat' first|(replace h:=qb h;obtain⟨d,g,h⟩:=h;with_reducible first|replace g:=uo g|replace g:=zkz g|replace g:=jq8 g|skip)|(replace h:=qc h;rcases h with⟨g,h⟩|⟨g,h⟩)
 all_goals (cases h<;>(simp only[go_sem,seval,Fy,ji, *]<;>rfl))
end Go.Z
namespace Go.Z
open Go Go.Abs Go.W
def B6 (O:av)(J:aC):Option (Option (Nat)⊕(Nat⊕Nat)):=
 cond (decide (0<(j9 J.kind).length))
  (cond (decide (((qj (j9 J.kind) 0).1:Int)=45))
   (Ga (.inl (Ga (0+(qj (j9 J.kind) 0).2))))
   (qa (ql (J.names.getD []) (0:Int)) fun Cw=>
   qa (f104 O ((qj (j9 J.kind) 0).1:Int) Cw) fun AJ=>
   cond AJ
    (Ga (.inl (Ga (0+(qj (j9 J.kind) 0).2))))
    (Ga (.inr (.inl (0+(qj (j9 J.kind) 0).2))))))
  (Ga (.inr (.inr 0)))
def xG (O:av)(J:aC)(V:Nat):Option (Option (Nat)⊕(Nat⊕Nat)):=
 cond (decide (V<(j9 J.kind).length))
  (cond (decide (((qj (j9 J.kind) V).1:Int)=45))
   (Ga (.inl (Ga (V+(qj (j9 J.kind) V).2))))
   (qa (ql (J.names.getD []) (V:Int)) fun jY=>
   qa (f104 O ((qj (j9 J.kind) V).1:Int) jY) fun oj=>
   cond oj
    (Ga (.inl (Ga (V+(qj (j9 J.kind) V).2))))
    (Ga (.inr (.inl (V+(qj (j9 J.kind) V).2))))))
  (Ga (.inr (.inr V)))
def GG (O:av)(J:aC):Option (Nat)->Option (Option (Nat)⊕(Nat⊕Nat))
 |none=>B6 O J|some x=>xG O J x
def qx8 (O:av)(J:aC)(V:Nat):bg:=⟨[(2,.ptr 0 0,En),(3,.aq (aE J),En),(4,.ptr 1 0,En),(6,.aq (.agg [.str (j9 J.kind),Iv (mN J.kind),nz J.kind]),En),(24,.ptr 3 0,En),(41,.bool En,En)],[.cells [(Iv O.day,En),(sl 5 jf O.ay,En),(sl 4 qw O.ah,En),(sl 8 bI O.units,En)],kZ,.map jc,.iter (j9 J.kind) V]⟩
def H4 (O:av)(J:aC):Option (Nat)->bg
 |none=>⟨[(2,.ptr 0 0,En),(3,.aq (aE J),En),(4,.ptr 1 0,En),(6,.aq (.agg [.str (j9 J.kind),Iv (mN J.kind),nz J.kind]),En),(24,.ptr 3 0,En)],[.cells [(Iv O.day,En),(sl 5 jf O.ay,En),(sl 4 qw O.ah,En),(sl 8 bI O.units,En)],kZ,.map jc,.iter (j9 J.kind) 0]⟩|some x=>qx8 O J x
def H5 (O:av)(J:aC):Nat⊕Nat->q9×bg
 | .inl d=>(.ret,⟨[(4,.ptr 1 0,En),(5,Iv 10,En)],[.cells [(Iv O.day,En),(sl 5 jf O.ay,En),(sl 4 qw O.ah,En),(sl 8 bI O.units,En)],kZ,.map jc,.iter (j9 J.kind) d]⟩)| .inr d=>(.exit 0,⟨[(2,.ptr 0 0,En),(3,.aq (aE J),En),(4,.ptr 1 0,En),(6,.aq (.agg [.str (j9 J.kind),Iv (mN J.kind),nz J.kind]),En),(24,.ptr 3 0,En),(25,.aI [.bool En],En),(26,.bool En,En)],[.cells [(Iv O.day,En),(sl 5 jf O.ay,En),(sl 4 qw O.ah,En),(sl 8 bI O.units,En)],kZ,.map jc,.iter (j9 J.kind) d]⟩)
theorem jtc (O:av)(J:aC)(r)(h:B6 O J=Ga r):jo pr yF (H4 O J) (H5 O J) Gd r:=by
 unfold B6 at h
 repeat' first|(replace h:=qb h;obtain⟨d,g,h⟩:=h;with_reducible first|replace g:=j3d g|skip)|(replace h:=qc h;rcases h with⟨g,h⟩|⟨g,h⟩)
 all_goals (cases h<;>((first|refine qn ?_|refine jr ?_);simp only[go_sem,seval,yF,H4,qx8,zM,ji,H5, *]<;>rfl))
theorem jso (O:av)(J:aC)(V:Nat)(r)(h:xG O J V=Ga r):jo pr yF (H4 O J) (H5 O J) (Ga V) r:=by
 unfold xG at h
 repeat' first|(replace h:=qb h;obtain⟨d,g,h⟩:=h;with_reducible first|replace g:=j3d g|skip)|(replace h:=qc h;rcases h with⟨g,h⟩|⟨g,h⟩)
 all_goals (cases h<;>((first|refine qn ?_|refine jr ?_);simp only[go_sem,seval,yF,H4,qx8,zM,ji,H5, *]<;>rfl))
theorem j2j (O:av)(J:aC):∀(x:Option (Nat)) (r) (h:GG O J x=Ga r),jo pr yF (H4 O J) (H5 O J) x r
 |none,r,h=>jtc O J r h|some x,r,h=>jso O J x r h
theorem jjf (O:av)(J:aC){V d}(h:bd (GG O J) V=Ga d):X pr (.loop yF) (H4 O J V)=Ga (H5 O J d):=zz (j2j O J) h
def fL (k:Nat)(O:av)(J:aC):Option (Int×av):=
 bif Hc k 106 then qa (f106 J O.day O.ay O.ah O.units) fun v=>Ga (v.1,{ O with ay:=v.2.1 })else
 bif Hc k 107 then qa (f107 J O.day O.ay O.ah O.units) fun v=>Ga (v.1,{ O with ah:=v.2.1 })else
 bif Hc k 108 then qa (f108 J O.day O.ay O.ah O.units) fun v=>Ga (v.1,{ O with ah:=v.2 })else
 bif Hc k 109 then qa (f109 J O.day O.ay O.ah O.units) fun v=>Ga (v.1,{ O with ah:=v.2 })else
 bif Hc k 110 then qa (f110 J O.day O.ay O.ah O.units) fun v=>Ga (v.1,{ O with ah:=v.2 })else
 bif Hc k 111 then qa (f111 J O.day O.ay O.ah O.units) fun v=>Ga (v.1,{ O with units:=v.2.1 })else
 bif Hc k 113 then qa (f113 J O.day O.ay O.ah O.units) fun v=>Ga (v.1,{ O with units:=v.2 })else
 bif Hc k 114 then qa (f114 J O.day O.ay O.ah O.units) fun v=>Ga (v.1,{ O with units:=v.2 })else
 bif Hc k 115 then qa (f115 J O.day O.ay O.ah O.units) fun v=>Ga (v.1,{ O with units:=v.2 })else
 bif Hc k 116 then qa (f116 J O.day O.ay O.ah O.units) fun v=>Ga (v.1,{ O with ay:=v.2 })else
 bif Hc k 117 then qa (f117 J O.day O.ay O.ah O.units) fun v=>Ga (v.1,{ O with ay:=v.2 })else
 bif Hc k 118 then qa (f118 J O.day O.ay O.ah O.units) fun v=>Ga (v.1,{ O with units:=v.2 })else
 bif Hc k 119 then qa (f119 J O.day O.ay O.ah O.units) fun v=>Ga (v.1,{ O with units:=v.2 })else
 bif Hc k 112 then qa (f112 J O.day O.ay O.ah O.units) fun v=>Ga (v.1,{ O with ay:=v.2.1,units:=v.2.2 })else Gd
theorem jn9 {k O J x1 x2 x3 v}(h:fL k O J=Ga v):
  (∃w1 w2 w3:Bool,ai pr (X pr) k [.ptr 0 0,aE J] [.cells [(Iv O.day,En),(sl 5 jf O.ay,En),(sl 4 qw O.ah,En),(sl 8 bI O.units,En)],x1,x2,x3]=Ga (Iv v.1,En,[.cells [(Iv v.2.day,En),(sl 5 jf v.2.ay,w1),(sl 4 qw v.2.ah,w2),(sl 8 bI v.2.units,w3)],x1,x2,x3])/\v.2.day=O.day) \/
  (v.1=0/\v.2.day=O.day/\∃(n:Nat) (b:aM) (cs:List (AVal×Bool)),ai pr (X pr) k [.ptr 0 0,aE J] [.cells [(Iv O.day,En),(sl 5 jf O.ay,En),(sl 4 qw O.ah,En),(sl 8 bI O.units,En)],x1,x2,x3]=Ga (Iv 0,En,[.cells [(Iv v.2.day,En),(sl 5 jf v.2.ay,En),(sl 4 qw v.2.ah,En),(.ms 5 0 n,En)],x1,x2,x3,b,.cells cs])/\cs.map (·.1)=zi bI (v.2.units.getD [])/\n=(v.2.units.getD []).length/\0<n/\v.2.units.isSome=Hb):=by
 unfold fL at h;rw[Ha]at h;split at h
 .rename_i hk;rw[Gb hk];obtain⟨y,hy,h⟩:=qb h;cases h;exact .inl ⟨y.2.2,En,En,zgr hy,rfl⟩
 rw[Ha]at h;split at h
 .rename_i hk;rw[Gb hk];obtain⟨y,hy,h⟩:=qb h;cases h;exact .inl ⟨En,y.2.2,En,zgs hy,rfl⟩
 rw[Ha]at h;split at h
 .rename_i hk;rw[Gb hk];obtain⟨y,hy,h⟩:=qb h;cases h;exact .inl ⟨En,En,En,zko hy,rfl⟩
 rw[Ha]at h;split at h
 .rename_i hk;rw[Gb hk];obtain⟨y,hy,h⟩:=qb h;cases h;exact .inl ⟨En,En,En,zfd hy,rfl⟩
 rw[Ha]at h;split at h
 .rename_i hk;rw[Gb hk];obtain⟨y,hy,h⟩:=qb h;cases h;exact .inl ⟨En,En,En,zhj hy,rfl⟩
 rw[Ha]at h;split at h
 .rename_i hk;rw[Gb hk];obtain⟨y,hy,h⟩:=qb h;cases h;exact .inl ⟨En,En,y.2.2,zi6 hy,rfl⟩
 rw[Ha]at h;split at h
 .rename_i hk;rw[Gb hk];obtain⟨y,hy,h⟩:=qb h;cases h;exact .inl ⟨En,En,En,zdf hy,rfl⟩
 rw[Ha]at h;split at h
 .rename_i hk;rw[Gb hk];obtain⟨y,hy,h⟩:=qb h;cases h;exact .inl ⟨En,En,En,zi8 hy,rfl⟩
 rw[Ha]at h;split at h
 .rename_i hk;rw[Gb hk];obtain⟨y,hy,h⟩:=qb h;cases h;exact .inl ⟨En,En,En,zj0 hy,rfl⟩
 rw[Ha]at h;split at h
 .rename_i hk;rw[Gb hk];obtain⟨y,hy,h⟩:=qb h;cases h;exact .inl ⟨En,En,En,zkp hy,rfl⟩
 rw[Ha]at h;split at h
 .rename_i hk;rw[Gb hk];obtain⟨y,hy,h⟩:=qb h;cases h;exact .inl ⟨En,En,En,zdl hy,rfl⟩
 rw[Ha]at h;split at h
 .rename_i hk;rw[Gb hk];obtain⟨y,hy,h⟩:=qb h;cases h;exact .inl ⟨En,En,En,zdy hy,rfl⟩
 rw[Ha]at h;split at h
 .rename_i hk;rw[Gb hk];obtain⟨y,hy,h⟩:=qb h;cases h;exact .inl ⟨En,En,En,zjv hy,rfl⟩
 rw[Ha]at h;split at h
 .rename_i hk;rw[Gb hk];obtain⟨y,hy,h⟩:=qb h;cases h;rcases zf8 (x1:=x1) (x2:=x2) (x3:=x3) hy with⟨Y,I,h3⟩|⟨Y,n,b,cs,I,h3,h4,h5⟩
  .refine .inl ⟨En,En,En,?_,rfl⟩;rcases y with⟨y1,y2⟩;cases I;exact h3
  .refine .inr ⟨Y,rfl,n,b,cs,I,h3,h4,h5,?_⟩;show y.2.2.isSome=Hb
   cases hu:y.2.2 with
   |some _=>rfl|none=>rw[hu]at h4;simp at h4;omega
 .cases h
def Kx (x:aj):Nat:=match qU x with
 |some f=>f.2.2.2|none=>0
theorem jlz (x:aj):nz x=fnv (Kx x):=by
 unfold nz Kx;cases qU x<;>rfl
theorem jm9 {k O J v}(h:fL k O J=Ga v):fnv k=.fn (.func k) [] []:=by
 cases hk:Hc k 0 with
 |false=>simp only[fnv,hk,cond_false]|true=>rw[Gb hk]at h;cases h
def f129 (O:av)(J:aC):Option (av×Int):=
 qa (ql (J.values.getD []) 0) fun v1=>
 cond (decide (v1<O.day))
  (Ga (⟨0,Gd,Gd,Gd⟩,20))
  (qa (bd (GG O J) Gd) fun d48=>match d48 with
   | .inl d50=>
    Ga (⟨0,Gd,Gd,Gd⟩,10)
   | .inr d51=>
    qa (fL (Kx J.kind) O J) fun v=>
    cond (decide (v.1=0))
     (Ga ({ v.2 with day:=v1 },0))
     (Ga (⟨0,Gd,Gd,Gd⟩,v.1)))
theorem jxm {O J r}(h:f129 O J=Ga r):ae pr (X pr) 129 [aR O,aE J]=Ga (.aI [aR r.1,Iv r.2],En):=by
 unfold f129 at h;obtain⟨v1,I,h⟩:=qb h;rcases qc h with⟨h3,h⟩|⟨h3,h⟩
 .have Q:(⟨0,Gd,Gd,Gd⟩,20)=r:=Ga.inj h;subst Q
  have this:∃hh,ai pr (X pr) 129 [aR O,aE J] []=Ga (.aI [aZ,Iv 20],En,hh):=by
   rw[qg (show pr.br 129=Ga jT from rfl) (by simp)];simp only[go_sem,seval,jT,jn I,h3];exact⟨_,rfl⟩
  obtain⟨hh,this⟩:=this;exact je rfl this (by first|rfl|simp only[go_sem,seval]) (by first|rfl|simp only[go_sem,seval])
 .obtain⟨d48,h49,h⟩:=qb h;rcases d48 with d50|d51
  .have rP:X pr (.loop yF) ⟨[(2,.ptr 0 0,En),(3,.aq (aE J),En),(4,.ptr 1 0,En),(6,.aq (.agg [.str (j9 J.kind),Iv (mN J.kind),nz J.kind]),En),(24,.ptr 3 0,En)],[kR O.day O.ay O.ah O.units,kZ,.map jc,.iter (j9 J.kind) 0]⟩=Ga (.ret,⟨[(4,.ptr 1 0,En),(5,Iv 10,En)],[kR O.day O.ay O.ah O.units,kZ,.map jc,.iter (j9 J.kind) d50]⟩):=jjf O J h49;have Q:(⟨0,Gd,Gd,Gd⟩,10)=r:=Ga.inj h;subst Q
   have this:∃hh,ai pr (X pr) 129 [aR O,aE J] []=Ga (.aI [aZ,Iv 10],En,hh):=by
    rw[qg (show pr.br 129=Ga jT from rfl) (by simp)];simp only[go_sem,seval,jT,jn I,h3,Pg,rP];exact⟨_,rfl⟩
   obtain⟨hh,this⟩:=this;exact je rfl this (by first|rfl|simp only[go_sem,seval]) (by first|rfl|simp only[go_sem,seval])
  .have rP:X pr (.loop yF) ⟨[(2,.ptr 0 0,En),(3,.aq (aE J),En),(4,.ptr 1 0,En),(6,.aq (.agg [.str (j9 J.kind),Iv (mN J.kind),nz J.kind]),En),(24,.ptr 3 0,En)],[kR O.day O.ay O.ah O.units,kZ,.map jc,.iter (j9 J.kind) 0]⟩=Ga (.exit 0,⟨[(2,.ptr 0 0,En),(3,.aq (aE J),En),(4,.ptr 1 0,En),(6,.aq (.agg [.str (j9 J.kind),Iv (mN J.kind),nz J.kind]),En),(24,.ptr 3 0,En),(25,.aI [.bool En],En),(26,.bool En,En)],[kR O.day O.ay O.ah O.units,kZ,.map jc,.iter (j9 J.kind) d51]⟩):=jjf O J h49;obtain⟨v,hv,h⟩:=qb h
   have hfn:nz J.kind=.fn (.func (Kx J.kind)) [] []:=by rw[jlz];exact jm9 hv
   simp only[hfn]at rP;have af:∀(n:Int) (b:aM),qz 4 (Iv n) [b,kZ,.map jc,.iter (j9 J.kind) d51]=[b,kZ,.map jc,.iter (j9 J.kind) d51]:=fun _ _=>zp rfl;rcases jn9 (x1:=kZ) (x2:=.map jc) (x3:=.iter (j9 J.kind) d51) hv with⟨w1,w2,w3,g,hd⟩|⟨h0,hd,n,b,cs,g,g2,hn,iO,G⟩
   .rcases qc h with⟨h5,h⟩|⟨h5,h⟩
    .cases h
     have this:∃hh,ai pr (X pr) 129 [aR O,aE J] []=Ga (.aI [aG v1 v.2.ay v.2.ah v.2.units,Iv 0],En,hh):=by
      rw[qg (show pr.br 129=Ga jT from rfl) (by simp)];simp only[go_sem,seval,jT,jn I,h3,Pg,rP,hfn,g,af,h5];exact⟨_,rfl⟩
     obtain⟨hh,this⟩:=this;exact je rfl this (by first|rfl|simp only[go_sem,seval]) (by first|rfl|simp only[go_sem,seval])
    .cases h
     have this:∃hh,ai pr (X pr) 129 [aR O,aE J] []=Ga (.aI [aZ,Iv v.1],En,hh):=by
      rw[qg (show pr.br 129=Ga jT from rfl) (by simp)];simp only[go_sem,seval,jT,jn I,h3,Pg,rP,hfn,g,af,h5];exact⟨_,rfl⟩
     obtain⟨hh,this⟩:=this;exact je rfl this (by first|rfl|simp only[go_sem,seval]) (by first|rfl|simp only[go_sem,seval])
   .have h5:decide (v.1=0)=Hb:=decide_eq_true h0;rw[h5]at h;cases h;have ab:∀(n:Int) (c:aM),qz 4 (Iv n) [c,kZ,.map jc,.iter (j9 J.kind) d51,b,.cells cs]=(bif zj 4 c&&qt 4 [kZ,.map jc,.iter (j9 J.kind) d51]then [c,kZ,.map jc,.iter (j9 J.kind) d51]else [c,kZ,.map jc,.iter (j9 J.kind) d51,b,.cells cs]):=fun _ _=>rfl
    have this:ai pr (X pr) 129 [aR O,aE J] []=Ga (.aI [.agg [Iv v1,sl 5 jf v.2.ay,sl 4 qw v.2.ah,.ms 5 0 n],Iv 0],En,[.cells [(Iv v1,En),(sl 5 jf v.2.ay,En),(sl 4 qw v.2.ah,En),(.ms 5 0 n,En)],.cells [(Iv v1,En),(sl 5 jf v.2.ay,En),(sl 4 qw v.2.ah,En),(.ms 5 0 n,En)],.map jc,.iter (j9 J.kind) d51,b,.cells cs]):=by
     rw[qg (show pr.br 129=Ga jT from rfl) (by simp)];simp only[go_sem,seval,jT,jn I,h3,Pg,rP,hfn,g,(show ∀n,below 4 (.ms 5 0 n)=En from fun _=>rfl),Bool.false_and,If,cond_false]<;>rfl
    have fz:ku [.cells [(Iv v1,En),(sl 5 jf v.2.ay,En),(sl 4 qw v.2.ah,En),(.ms 5 0 n,En)],.cells [(Iv v1,En),(sl 5 jf v.2.ay,En),(sl 4 qw v.2.ah,En),(.ms 5 0 n,En)],.map jc,.iter (j9 J.kind) d51,b,.cells cs] (.ms 5 0 n)=Ga (sl 8 bI v.2.units):=by
     have hu:v.2.units=Ga (v.2.units.getD []):=by cases hq:v.2.units with
      |some _=>rfl|none=>rw[hq]at G;cases G
     rw[hn]at iO ⊢;rw[hu];exact wM ez iO g2
    refine je rfl this (v':=.aI [aG v1 v.2.ay v.2.ah v.2.units,Iv 0]) ?_ (by first|rfl|simp only[go_sem,seval]);simp only[go_sem,seval,fz]<;>rfl
end Go.Z
namespace Go.Z
open Go Go.Abs Go.W
@[go_sem] theorem zc2 {b v l}:(AVal.az b v l).flat=[.az b v l]:=rfl
@[go_sem] theorem zl3 {b v l}:qk (.az b v l)=Hb:=rfl
@[go_sem] theorem zcc {b v l}:AVal.cT (.az b v l)=En:=rfl
theorem j3t:∀ x:aC,(bK x).flat.length=5:=fun _=>rfl
theorem j82:∀ x:av,(zw x).flat.length=4:=fun _=>rfl
section
variable {h:qh}{α:Type}
theorem Hs {sz b v len:Nat}{l:List α}{i x}(M:ql (l.take len) i=Ga x):mM sz h (Ga (.az b v len)) (Ga (Iv i))=Ga ⟨.dW b v (i.toNat*sz),En,Gd,h⟩/\l[i.toNat]?=Ga x:=by
 unfold ql at M;split at M
 .rename_i hi;have I:=(List.getElem?_eq_some_iff.1 M).1;rw[List.length_take]at I
  have h3:i.toNat<len:=by omega
  refine⟨?_,?_⟩
  .have:=jjc (sz:=sz) (h:=h) (b:=b) (v:=v) (k:=.i64) h3;rw[Int.toNat_of_nonneg hi]at this;exact this
  .rw[List.getElem?_take,if_pos h3]at M;exact M
 .cases M
theorem jwq {sz b v len:Nat}{i}(hi:0<=i)(hl:i<=(len:Int)):qQ sz h (Ga (.az b v len)) Gd (Ga (Ga (Iv i)))=Ga ⟨.az b v i.toNat,En,Gd,h⟩:=by
 have:ri len len (Ga (Ga (Iv i)))=Ga i.toNat:=by
  simp only[ri,AQ]
  cases i with
  |ofNat n=>
   have Y:((n:Nat):Int)<=(len:Int):=hl
   have I:n<=len:=by omega
   simp only[Hq I,cond_true];rfl
  |negSucc n=>omega
 simp only[qQ,this];rfl
def qZ (xs:List α)(len:Nat)(x:α):Option (List α):=if len<=xs.length/\len+1<=1073741824 then Ga (xs.take len++[x])else Gd
theorem LN {h0 b v len r sz bytes:Nat}{c:Bool}{f:α->AVal}{l l':List α}{x}(hp:qZ l len x=Ga l')(hb:h[b]?=Ga (.vec sz v (l.map f)))(M:qp 0 [f x]=Hb)(hz:0<sz)(VF:bytes<=4096)(Q:r<1000):
  qP h0 r sz bytes h (Ga (.az b v len)) (Ga (.list c sz [f x]))=Ga ⟨.az b (v+1) (len+1),En,Gd,h.set b (.vec sz (v+1) (l'.map f))⟩:=by
 unfold qZ at hp;split at hp
 .rename_i hl;cases hp;have:=jjb (h:=h) (h0:=h0) (c:=c) (ys:=[f x]) hb (by rw[List.length_map];exact hl.1) (by simpa using hl.2) VF hz M Q;rw[this];simp[List.map_take]
 .cases hp
end
structure HV where
 ev:List aC
 ve:Nat
 cs:List aC
 lc:Nat
 vc:Nat
 ss:List av
 ls:Nat
 vs:Nat
abbrev kV (v:HV)(a b c:Nat):aM:=.cells [(.az a v.ve v.ev.length,En),(.az b v.vc v.lc,En),(.az c v.vs v.ls,En)]
theorem jdm {n st}(h:qt n (st.heap.take n)=En):gc n st=st:=by
 unfold gc;rw[h,If,cond_false];cases Nat.ble st.heap.length n<;>rfl
theorem q46 {α:Type}{l l':List α}{x}(h:qZ l l.length x=Ga l'):l'.length=l.length+1:=by
 unfold qZ at h;split at h
 .cases h;simp
 .cases h
def Cd (s:HV)(e:aC):Option (Int×HV):=
 cond (decide (e.number=qd .i64 ((s.ev.length:Int)+1)))
  (cond (decide (e.kind=([117,110,100,111]:aj)))
   (qa (f36 (decide ((s.lc:Int)=0)) 12) fun e1=>
   cond (decide (0<(s.lc:Int)))
    (qa (ql (s.cs.take s.lc) (max 0 (qd .i64 ((s.lc:Int)-1)))) fun x=>
    qa (f36 (decide (x.kind=([115,104,105,112]:aj))) 19) fun e2=>
    qa (f35 (Ga [e1,e2])) fun e3=>
    cond (decide (e3=0))
     (cond (decide (0<=qd .i64 ((s.lc:Int)-1)/\qd .i64 ((s.lc:Int)-1)<=(s.lc:Int)/\s.lc<=s.ls))
      (qa (qZ s.ev s.ev.length e) fun ev=>Ga (0,{ s with ev:=ev,ve:=s.ve+1,lc:=(qd .i64 ((s.lc:Int)-1)).toNat,ls:=s.lc }))
      Gd)
     (Ga (e3,s)))
    (qa (f36 En 19) fun e2=>qa (f35 (Ga [e1,e2])) fun e3=>cond (decide (e3=0)) Gd (Ga (e3,s))))
   (qa (ql (s.ss.take s.ls) (qd .i64 ((s.ls:Int)-1))) fun r=>
   qa (f129 r e) fun v=>
   cond (decide (v.2=0))
    (qa (qZ s.cs s.lc e) fun cs=>qa (qZ s.ss s.ls v.1) fun ss=>qa (qZ s.ev s.ev.length e) fun ev=>
    Ga (0,{ ev:=ev,ve:=s.ve+1,cs:=cs,lc:=s.lc+1,vc:=s.vc+1,ss:=ss,ls:=s.ls+1,vs:=s.vs+1 }))
    (Ga (v.2,s))))
  (Ga (11,s))
theorem jec:decide (((([]:List AVal).length:Nat):Int)=0)=Hb:=rfl
theorem zjg:decide ((0:Int)<((([]:List AVal).length:Nat):Int))=En:=rfl
theorem jq6:decide ((0:Int)<((0:Nat):Int))=En:=rfl
def eb:av:=⟨0,Gd,Gd,Gd⟩
def Cc (e:aC):Option (Int×Option HV):=
 cond (decide (e.number=qd .i64 1))
  (cond (decide (e.kind=([117,110,100,111]:aj)))
   (qa (f36 Hb 12) fun e1=>qa (f36 En 19) fun e2=>qa (f35 (Ga [e1,e2])) fun e3=>cond (decide (e3=0)) Gd (Ga (e3,Gd)))
   (qa (f129 eb e) fun v=>
   cond (decide (v.2=0))
    (Ga (0,Ga { ev:=[e],ve:=0,cs:=[e],lc:=1,vc:=0,ss:=[eb,v.1],ls:=2,vs:=1 }))
    (Ga (v.2,Gd))))
  (Ga (11,Gd))
def sA (s:Option HV)(e:aC):Option (Int×Option HV):=match s with
 |none=>Cc e
 |some s=>qa (Cd s e) fun q=>Ga (q.1,Ga q.2)
def sB (l:ak aC)(x:Int×Option HV):Option ((Int×Option HV)⊕((Int×Int×Option HV)⊕(Int×Option HV))):=
 cond (decide (x.1<((l.getD []).length:Int)))
  (qa (ql (l.getD []) x.1) fun e=>
  qa (f41 e) fun c=>
  cond (decide (c=0))
   (qa (f46 e) fun e2=>
   qa (sA x.2 e2) fun q=>
   cond (decide (q.1=0))
    (Ga (.inl (qd .i64 (x.1+1),q.2)))
    (Ga (.inr (.inl (qd .i64 (x.1+1),q.1,q.2)))))
   (Ga (.inr (.inl (qd .i64 (x.1+1),c,x.2)))))
  (Ga (.inr (.inr x)))
def f27 (l:ak aC):Option ((Int×Int)⊕Option HV):=
 cond (decide (1000<((l.getD []).length:Int)))
  (Ga (.inl (0,5)))
  (qa (bd (sB l) (0,Gd)) fun d=>match d with
  | .inl d=>Ga (.inl (d.1,d.2.1))
  | .inr d=>Ga (.inr d.2))
end Go.Z
namespace Go.Z
open Go Go.Abs Go.W
def Px:Option HV->Option av
 |none=>Ga eb|some s=>ql (s.ss.take s.ls) (qd .i64 ((s.ls:Int)-1))
def f56 (l:ak aC):Option (av×Int×Int):=qa (f27 l) fun r=>match r with
 | .inl x=>cond (decide (x.2=0)) Gd (Ga (eb,x.1,x.2))
 | .inr o=>qa (Px o) fun r=>Ga (r,0,0)
end Go.Z
namespace Go.Z
open Go Go.Abs Go.W
def pA:Option HV->AVal
 |none=>.agg [Nl,Nl,.az 4 0 1]|some v=>.agg [.az 7 v.ve v.ev.length,.az 5 v.vc v.lc,.az 4 v.vs v.ls]
end Go.Z
namespace Go.Z
open Go Go.Abs Go.W
def jF:Option HV->AVal
 |none=>.agg [Nl,Nl,.az 3 0 1]|some v=>.agg [.az 6 v.ve v.ev.length,.az 4 v.vc v.lc,.az 3 v.vs v.ls]
end Go.Z
namespace Go.Z
open Go Go.Abs Go.W
def Cf (O:ak aj)(J:ak aj)(V:Int):Option (Int⊕(Unit⊕Int)):=
 cond (decide (V<((O.getD []).length:Int)))
  (qa (ql (O.getD []) V) fun dA=>
  qa (ql (J.getD []) V) fun eF=>
  cond (decide (dA=eF))
   (Ga (.inl (qd .i64 (V+1))))
   (Ga (.inr (.inl ()))))
  (Ga (.inr (.inr V)))
def TP (O:ak aj)(J:ak aj)(V:Int):bg:=⟨[(0,sl 1 qx O,En),(1,sl 1 qx J,En),(5,Iv V,En)],[]⟩
def TQ (O:ak aj)(J:ak aj):Unit⊕Int->q9×bg
 | .inl d=>(.ret,⟨[(4,.bool En,En)],[]⟩)| .inr d=>(.exit 0,⟨[(0,sl 1 qx O,En),(1,sl 1 qx J,En),(5,Iv d,En),(14,.bool En,En)],[]⟩)
theorem j55 (O:ak aj)(J:ak aj)(V:Int)(r)(h:Cf O J V=Ga r):jo pr TR (TP O J) (TQ O J) V r:=by
 unfold Cf at h
 repeat' first|(replace h:=qb h;obtain⟨d,g,h⟩:=h)|(replace h:=qc h;rcases h with⟨g,h⟩|⟨g,h⟩)
 all_goals (cases h<;>((first|refine qn ?_|refine jr ?_);simp only[go_sem,seval,TR,TP,ji,TQ, *]<;>rfl))
theorem j7d (O:ak aj)(J:ak aj){V d}(h:bd (Cf O J) V=Ga d):X pr (.loop TR) (TP O J V)=Ga (TQ O J d):=zz (j55 O J) h
def f24 (O:ak aj)(J:ak aj):Option Bool:=
 cond (decide (((O.getD []).length:Int)=((J.getD []).length:Int)))
  (qa (bd (Cf O J) 0) fun d20=>match d20 with
   | .inl d22=>
    Ga En
   | .inr d23=>
    Ga Hb)
  (Ga En)
theorem W24 {O J r}(h:f24 O J=Ga r):ae pr (X pr) 24 [sl 1 qx O,sl 1 qx J]=Ga (.bool r,En):=by
 unfold f24 at h;refine jz c24 ?_
 repeat' first|(replace h:=qb h;obtain⟨d,g,h⟩:=h;with_reducible first|(replace g:=j7d O J g;rcases d with d|d<;>dsimp only[TP,TQ,zc]at g h)|skip)|(replace h:=qc h;rcases h with⟨g,h⟩|⟨g,h⟩)
 all_goals (cases h<;>(simp only[go_sem,seval,c24, *];exact⟨_,rfl⟩))
end Go.Z
end
