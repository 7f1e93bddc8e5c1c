/- Chapter 10. -/
import Derived.Test.YtfopaakmgogpiaaGreatDoorV3
import Derived.Test.YtfopaakmgogpiaaGreatDoorAbsL
import Derived.Test.YtfopaakmgogpiaaGreatDoorCA
set_option linter.unusedVariables false
set_option linter.unusedSimpArgs false
set_option maxRecDepth 100000
set_option maxHeartbeats 4000000
noncomputable section
namespace Go.Z
open Go Go.Abs Go.W
def f126 (a0:qc)(a1:ql):Option (qc×Int):=
 jw (zo (a1.names.getD []) 0) fun v1=>
 jw (f28 a0 v1) fun v3=>
 cond (decide (v3<0))
  (some (a0,10))
  (jw (zo (a0.lots.getD []) v3) fun v6=>
  cond (decide (a1.kind=([104,111,108,100]:List UInt8)))
   (cond v6.held
    (some (a0,34))
    (cond (decide (a1.kind=([102,114,101,101]:List UInt8)))
     (some (a0,20))
     (jw (f206 a0 v3 (⟨v6.name,v6.kind,v6.count,v6.left,true⟩)) fun v11=>
     some (v11,0))))
   (cond (decide (a1.kind=([102,114,101,101]:List UInt8)))
    (cond v6.held
     (jw (f206 a0 v3 (⟨v6.name,v6.kind,v6.count,v6.left,false⟩)) fun v15=>
     some (v15,0))
     (some (a0,20)))
    (jw (f206 a0 v3 (⟨v6.name,v6.kind,v6.count,v6.left,false⟩)) fun v17=>
    some (v17,0))))
theorem ze0 {a0:qc}{a1:ql}{r}(h:f126 a0 a1=some r):jy pr (X pr) 126 [aR a0,aE a1]=some (.tup [aR r.1,Iv r.2],false):=by
 unfold f126 at h
 refine y7 c126 ?_
 repeat' first|(replace h:=jx h;obtain⟨d,g,h⟩:=h;with_reducible first|replace g:=W28 g|replace g:=jrj g|skip)|(replace h:=jz h;rcases h with⟨g,h⟩|⟨g,h⟩)|fail
 all_goals (cases h<;>(simp only[go_sem,seval,c126,zn,*];exact⟨_,rfl⟩))
def f125 (a0:qc)(a1:ql):Option (qc×Int):=
 jw (zo (a1.names.getD []) 0) fun v1=>
 jw (f144 a0 v1) fun v3=>
 cond (decide (v3<0))
  (some (a0,10))
  (jw (zo (a0.products.getD []) v3) fun v6=>
  cond (decide (a1.kind=([110,101,101,100]:List UInt8)))
   (jw (zo (a1.values.getD []) 1) fun v9=>
   cond (decide (10000<v9))
    (some (a0,3))
    (jw (zo (a1.names.getD []) 1) fun v12=>
    jw (f203 v6.dn (⟨v12,v9⟩)) fun v14=>
    cond v14.2
     (cond (decide (16<((v14.1.getD []).length:Int)))
      (some (a0,5))
      (jw (f205 a0 v3 (⟨v6.name,v14.1,v6.dt,v6.docs⟩)) fun v18=>
      some (v18,0)))
     (cond (decide (16<((v14.1.getD []).length:Int)))
      (some (a0,5))
      (jw (f205 a0 v3 (⟨v6.name,v14.1,v6.dt,v6.docs⟩)) fun v21=>
      some (v21,0)))))
   (cond (decide (a1.kind=([116,101,115,116]:List UInt8)))
    (jw (zo (a1.values.getD []) 2) fun v24=>
    jw (zo (a1.values.getD []) 1) fun v26=>
    cond (decide (v24<v26))
     (some (a0,11))
     (jw (zo (a1.names.getD []) 1) fun v29=>
     jw (f204 v6.dt (⟨v29,v26,v24⟩)) fun v31=>
     cond v31.2
      (cond (decide (16<((v31.1.getD []).length:Int)))
       (some (a0,5))
       (jw (f205 a0 v3 (⟨v6.name,v6.dn,v31.1,v6.docs⟩)) fun v35=>
       some (v35,0)))
      (cond (decide (16<((v31.1.getD []).length:Int)))
       (some (a0,5))
       (jw (f205 a0 v3 (⟨v6.name,v6.dn,v31.1,v6.docs⟩)) fun v38=>
       some (v38,0)))))
    (cond (decide (((v6.dn.getD []).length:Int)=0))
     (some (a0,12))
     (cond (decide (100≤((v6.docs.getD []).length:Int)))
      (some (a0,5))
      (jw (apO (some []) (v6.docs.getD [])) fun v42=>
      jw (apO v42 [⟨v6.dn,v6.dt⟩]) fun v44=>
      jw (f205 a0 v3 (⟨v6.name,v6.dn,v6.dt,v44⟩)) fun v46=>
      some (v46,0))))))
theorem zay {a0:qc}{a1:ql}{r}(h:f125 a0 a1=some r):jy pr (X pr) 125 [aR a0,aE a1]=some (.tup [aR r.1,Iv r.2],false):=by
 unfold f125 at h
 refine y7 c125 ?_
 repeat' first|(replace h:=jx h;obtain⟨d,g,h⟩:=h;with_reducible first|replace g:=q8r g|replace g:=j9x g|replace g:=zgt g|replace g:=j9c g|replace g:=qyu g|skip)|(replace h:=jz h;rcases h with⟨g,h⟩|⟨g,h⟩)|fail
 all_goals (cases h<;>(simp only[go_sem,seval,c125,zn,qa0,*];exact⟨_,rfl⟩))
def qiz (a0:qc)(a1:Int)(a2:ql)(v1:qf)(v5:Int)(v8:qj)(v15:qr)(s0:Bool×Int):Option ((Bool×Int)⊕((Bool×Int))):=
 cond (decide (s0.2<((v15.needs.getD []).length:Int)))
  (cond s0.1
   (some (.inl (true,j6 .i64 (s0.2+1))))
   (jw (zo (v15.needs.getD []) s0.2) fun v26=>
   some (.inl (decide (v26.k=v8.kind),j6 .i64 (s0.2+1)))))
  (some (.inr (s0.1,s0.2)))
def qnv (a0:qc)(a1:Int)(a2:ql)(v1:qf)(v5:Int)(v8:qj)(v15:qr)(s0:Bool×Int):qg:=⟨[(1,Iv a1,false),(3,.vptr (aR a0),false),(5,.vptr (aE a2),false),(6,.ptr 0 0,false),(8,.ptr 1 0,false),(9,Iv v5,false),(10,.ptr 2 0,false),(11,.vptr (aD v15),false),(12,.bool s0.1,false),(13,Iv s0.2,false)],[kZ,.cells [(.str v1.name,false),(.str v1.product,false),(Iv v1.version,false),(sl 2 vsi v1.uses,false),(sl 3 zz v1.results,false),(.str v1.partner,false),(.bool false,false),(Iv v1.complaints,false)],.cells [(.str v8.name,false),(.str v8.kind,false),(Iv v8.count,false),(Iv v8.left,false),(.bool false,false)]]⟩
def qnk (a0:qc)(a1:Int)(a2:ql)(v1:qf)(v5:Int)(v8:qj)(v15:qr)(d:(Bool×Int)):qo×qg:=(.exit 0,⟨[(1,Iv a1,false),(3,.vptr (aR a0),false),(5,.vptr (aE a2),false),(6,.ptr 0 0,false),(8,.ptr 1 0,false),(9,Iv v5,false),(10,.ptr 2 0,false),(11,.vptr (aD v15),false),(12,.bool d.1,false),(13,Iv d.2,false),(52,.bool false,false)],[kZ,.cells [(.str v1.name,false),(.str v1.product,false),(Iv v1.version,false),(sl 2 vsi v1.uses,false),(sl 3 zz v1.results,false),(.str v1.partner,false),(.bool false,false),(Iv v1.complaints,false)],.cells [(.str v8.name,false),(.str v8.kind,false),(Iv v8.count,false),(Iv v8.left,false),(.bool false,false)]]⟩)
theorem jq6 (a0:qc)(a1:Int)(a2:ql)(v1:qf)(v5:Int)(v8:qj)(v15:qr)(s0:Bool×Int)(r)(h:qiz a0 a1 a2 v1 v5 v8 v15 s0=some r):yq pr qqv (qnv a0 a1 a2 v1 v5 v8 v15) (qnk a0 a1 a2 v1 v5 v8 v15) s0 r:=by
 unfold qiz at h
 repeat' first|(replace h:=jx h;obtain⟨d,g,h⟩:=h)|(replace h:=jz h;rcases h with⟨g,h⟩|⟨g,h⟩)|fail
 all_goals (cases h<;>(first|(refine zw ?_;simp only[go_sem,seval,qqv,qnv,zn,qnk,*]<;>rfl)|(refine yl ?_;simp only[go_sem,seval,qqv,qnv,zn,qnk,*]<;>rfl)))
theorem jpk (a0:qc)(a1:Int)(a2:ql)(v1:qf)(v5:Int)(v8:qj)(v15:qr){s0:Bool×Int}{d}(h:itO (qiz a0 a1 a2 v1 v5 v8 v15) s0=some d):X pr (.loop qqv) (qnv a0 a1 a2 v1 v5 v8 v15 s0)=some (qnk a0 a1 a2 v1 v5 v8 v15 d):=y8 (jq6 a0 a1 a2 v1 v5 v8 v15) (fun d hh=>by cases hh) h
def f207 (a0:qc)(a1:Int)(a2:ql):Option (qc×Int):=
 jw (zo (a0.units.getD []) a1) fun v1=>
 jw (zo (a2.names.getD []) 1) fun v3=>
 jw (f28 a0 v3) fun v5=>
 cond (decide (v5<0))
  (some (a0,10))
  (jw (zo (a0.lots.getD []) v5) fun v8=>
  cond v1.shipped
   (some (a0,21))
   (jw (zo (a2.values.getD []) 1) fun v11=>
   cond (decide (v11=0))
    (some (a0,3))
    (cond v8.held
     (some (a0,34))
     (jw (f78 a0 (⟨v1.name,v1.product,v1.version,v1.uses,v1.results,v1.partner,false,v1.complaints⟩)) fun v15=>
     jw (itO (qiz a0 a1 a2 v1 v5 v8 v15) (false,0)) fun d28=>
     cond d28.1
      (cond (decide (v8.left<v11))
       (some (a0,4))
       (jw (f252 v1.uses v8.name v11) fun v32=>
       cond v32.2
        (jw (f206 a0 v5 (⟨v8.name,v8.kind,v8.count,j6 .i64 (v8.left-v11),false⟩)) fun v35=>
        jw (f209 v35 a1 (⟨v1.name,v1.product,v1.version,v32.1,v1.results,v1.partner,false,v1.complaints⟩)) fun v37=>
        some (v37,0))
        (jw (f206 a0 v5 (⟨v8.name,v8.kind,v8.count,j6 .i64 (v8.left-v11),false⟩)) fun v39=>
        jw (f209 v39 a1 (⟨v1.name,v1.product,v1.version,v32.1,v1.results,v1.partner,false,v1.complaints⟩)) fun v41=>
        some (v41,0))))
      (some (a0,7))))))
theorem j9y {a0:qc}{a1:Int}{a2:ql}{r}(h:f207 a0 a1 a2=some r):jy pr (X pr) 207 [aR a0,Iv a1,aE a2]=some (.tup [aR r.1,Iv r.2],false):=by
 unfold f207 at h
 refine y7 c207 ?_
 repeat' first|(replace h:=jx h;obtain⟨d,g,h⟩:=h;with_reducible first|replace g:=W28 g|replace g:=W78 g|replace g:=zen g|replace g:=jrj g|replace g:=jfx g|(replace g:=jpk a0 a1 a2 _ _ _ _ g;dsimp only[qnv,qnk,kc]at g h)|skip)|(replace h:=jz h;rcases h with⟨g,h⟩|⟨g,h⟩)|fail
 all_goals (cases h<;>(simp only[go_sem,seval,c207,zn,*];exact⟨_,rfl⟩))
def f208 (a0:qc)(a1:Int)(a2:ql):Option (qc×Int):=
 jw (zo (a0.units.getD []) a1) fun v1=>
 jw (zo (a2.names.getD []) 1) fun v3=>
 jw (f27 a0 v3) fun v5=>
 cond (decide (v5<0))
  (some (a0,10))
  (jw (zo (a0.units.getD []) v5) fun v8=>
  cond (decide (v5=a1))
   (some (a0,9))
   (cond (decide (v1.product=v8.product))
    (cond (decide (v1.version=v8.version))
     (cond v1.shipped
      (some (a0,21))
      (cond v8.shipped
       (some (a0,21))
       (cond (decide (v1.partner=[]))
        (cond (decide (v8.partner=[]))
         (jw (f209 a0 a1 (⟨v1.name,v1.product,v1.version,v1.uses,v1.results,v8.name,false,v1.complaints⟩)) fun v17=>
         jw (f209 v17 v5 (⟨v8.name,v8.product,v8.version,v8.uses,v8.results,v1.name,false,v8.complaints⟩)) fun v19=>
         some (v19,0))
         (some (a0,35)))
        (some (a0,35)))))
     (some (a0,30)))
    (some (a0,30))))
theorem zhy {a0:qc}{a1:Int}{a2:ql}{r}(h:f208 a0 a1 a2=some r):jy pr (X pr) 208 [aR a0,Iv a1,aE a2]=some (.tup [aR r.1,Iv r.2],false):=by
 unfold f208 at h
 refine y7 c208 ?_
 repeat' first|(replace h:=jx h;obtain⟨d,g,h⟩:=h;with_reducible first|replace g:=W27 g|replace g:=jfx g|skip)|(replace h:=jz h;rcases h with⟨g,h⟩|⟨g,h⟩)|fail
 all_goals (cases h<;>(simp only[go_sem,seval,c208,zn,*];exact⟨_,rfl⟩))
def qi0 (a0:qc)(a1:ql)(v3:Int)(v6:qf)(v16:qr)(s0:Bool×Int):Option ((Bool×Int)⊕((Bool×Int))):=
 cond (decide (s0.2<((v16.tests.getD []).length:Int)))
  (cond s0.1
   (some (.inl (true,j6 .i64 (s0.2+1))))
   (jw (zo (v16.tests.getD []) s0.2) fun v31=>
   jw (zo (a1.names.getD []) 1) fun v33=>
   some (.inl (decide (v31.k=v33),j6 .i64 (s0.2+1)))))
  (some (.inr (s0.1,s0.2)))
def qna (a0:qc)(a1:ql)(v3:Int)(v6:qf)(v16:qr)(s0:Bool×Int):qg:=⟨[(2,.vptr (aR a0),false),(3,.vptr (aE a1),false),(4,.ptr 0 0,false),(6,Iv v3,false),(7,.ptr 1 0,false),(8,.vptr (aD v16),false),(9,.bool s0.1,false),(10,Iv s0.2,false)],[kZ,.cells [(.str v6.name,false),(.str v6.product,false),(Iv v6.version,false),(sl 2 vsi v6.uses,false),(sl 3 zz v6.results,false),(.str v6.partner,false),(.bool false,false),(Iv v6.complaints,false)]]⟩
def qn1 (a0:qc)(a1:ql)(v3:Int)(v6:qf)(v16:qr)(d:(Bool×Int)):qo×qg:=(.exit 1,⟨[(2,.vptr (aR a0),false),(3,.vptr (aE a1),false),(4,.ptr 0 0,false),(6,Iv v3,false),(7,.ptr 1 0,false),(8,.vptr (aD v16),false),(9,.bool d.1,false),(10,Iv d.2,false),(64,.bool false,false)],[kZ,.cells [(.str v6.name,false),(.str v6.product,false),(Iv v6.version,false),(sl 2 vsi v6.uses,false),(sl 3 zz v6.results,false),(.str v6.partner,false),(.bool false,false),(Iv v6.complaints,false)]]⟩)
theorem joi (a0:qc)(a1:ql)(v3:Int)(v6:qf)(v16:qr)(s0:Bool×Int)(r)(h:qi0 a0 a1 v3 v6 v16 s0=some r):yq pr qq1 (qna a0 a1 v3 v6 v16) (qn1 a0 a1 v3 v6 v16) s0 r:=by
 unfold qi0 at h
 repeat' first|(replace h:=jx h;obtain⟨d,g,h⟩:=h)|(replace h:=jz h;rcases h with⟨g,h⟩|⟨g,h⟩)|fail
 all_goals (cases h<;>(first|(refine zw ?_;simp only[go_sem,seval,qq1,qna,zn,qn1,*]<;>rfl)|(refine yl ?_;simp only[go_sem,seval,qq1,qna,zn,qn1,*]<;>rfl)))
theorem jpv (a0:qc)(a1:ql)(v3:Int)(v6:qf)(v16:qr){s0:Bool×Int}{d}(h:itO (qi0 a0 a1 v3 v6 v16) s0=some d):X pr (.loop qq1) (qna a0 a1 v3 v6 v16 s0)=some (qn1 a0 a1 v3 v6 v16 d):=y8 (joi a0 a1 v3 v6 v16) (fun d hh=>by cases hh) h
def f127 (a0:qc)(a1:ql):Option (qc×Int):=
 jw (zo (a1.names.getD []) 0) fun v1=>
 jw (f27 a0 v1) fun v3=>
 cond (decide (v3<0))
  (some (a0,10))
  (jw (zo (a0.units.getD []) v3) fun v6=>
  cond (decide (a1.kind=([117,115,101]:List UInt8)))
   (jw (f207 a0 v3 a1) fun v9=>
   some (v9.1,v9.2))
   (cond (decide (a1.kind=([112,97,105,114]:List UInt8)))
    (jw (f208 a0 v3 a1) fun v12=>
    some (v12.1,v12.2))
    (cond (decide (a1.kind=([109,101,97,115,117,114,101]:List UInt8)))
     (cond v6.shipped
      (some (a0,21))
      (jw (f78 a0 (⟨v6.name,v6.product,v6.version,v6.uses,v6.results,v6.partner,false,v6.complaints⟩)) fun v16=>
      jw (itO (qi0 a0 a1 v3 v6 v16) (false,0)) fun d35=>
      cond d35.1
       (cond (decide (64≤((v6.results.getD []).length:Int)))
        (some (a0,5))
        (jw (apO (some []) (v6.results.getD [])) fun v39=>
        jw (zo (a1.names.getD []) 1) fun v41=>
        jw (zo (a1.values.getD []) 1) fun v43=>
        jw (apO v39 [⟨v41,v6.version,v43⟩]) fun v45=>
        jw (f209 a0 v3 (⟨v6.name,v6.product,v6.version,v6.uses,v45,v6.partner,false,v6.complaints⟩)) fun v47=>
        some (v47,0)))
       (some (a0,7))))
     (cond (decide (a1.kind=([117,112,100,97,116,101]:List UInt8)))
      (cond v6.shipped
       (some (a0,21))
       (jw (f80 a0 (⟨v6.name,v6.product,v6.version,v6.uses,v6.results,v6.partner,false,v6.complaints⟩)) fun v51=>
       cond (decide (v6.version=v51))
        (some (a0,32))
        (jw (f209 a0 v3 (⟨v6.name,v6.product,v51,v6.uses,v6.results,v6.partner,false,v6.complaints⟩)) fun v54=>
        some (v54,0))))
      (cond (decide (a1.kind=([115,104,105,112]:List UInt8)))
       (jw (f31 a0 v6) fun v57=>
       cond (decide (v57=0))
        (jw (f209 a0 v3 (⟨v6.name,v6.product,v6.version,v6.uses,v6.results,v6.partner,true,v6.complaints⟩)) fun v60=>
        some (v60,0))
        (some (a0,v57)))
       (cond v6.shipped
        (jw (f209 a0 v3 (⟨v6.name,v6.product,v6.version,v6.uses,v6.results,v6.partner,true,j6 .i64 (v6.complaints+1)⟩)) fun v63=>
        some (v63,0))
        (some (a0,20))))))))
theorem zf8 {a0:qc}{a1:ql}{r}(h:f127 a0 a1=some r):jy pr (X pr) 127 [aR a0,aE a1]=some (.tup [aR r.1,Iv r.2],false):=by
 unfold f127 at h
 refine y7 c127 ?_
 repeat' first|(replace h:=jx h;obtain⟨d,g,h⟩:=h;with_reducible first|replace g:=W27 g|replace g:=j9y g|replace g:=zhy g|replace g:=W78 g|replace g:=jfx g|replace g:=W80 g|replace g:=W31 g|replace g:=qgz g|(replace g:=jpv a0 a1 _ _ _ g;dsimp only[qna,qn1,kc]at g h)|skip)|(replace h:=jz h;rcases h with⟨g,h⟩|⟨g,h⟩)|fail
 all_goals (cases h<;>(simp only[go_sem,seval,c127,zn,qa0,*];exact⟨_,rfl⟩))
def f69 (a0:qc)(a1:ql):Option (qc×Int):=
 jw (zo (a1.values.getD []) 0) fun v1=>
 cond (decide (v1<a0.day))
  (some (a0,20))
  (cond (decide (a1.kind=([108,111,116]:List UInt8)))
   (jw (f124 a0 a1) fun v5=>
   some (⟨v1,v5.1.lots,v5.1.products,v5.1.units⟩,v5.2))
   (cond (decide (a1.kind=([112,114,111,100,117,99,116]:List UInt8)))
    (jw (f124 a0 a1) fun v8=>
    some (⟨v1,v8.1.lots,v8.1.products,v8.1.units⟩,v8.2))
    (cond (decide (a1.kind=([98,117,105,108,100]:List UInt8)))
     (jw (f124 a0 a1) fun v11=>
     some (⟨v1,v11.1.lots,v11.1.products,v11.1.units⟩,v11.2))
     (cond (decide (a1.kind=([110,101,101,100]:List UInt8)))
      (jw (f125 a0 a1) fun v14=>
      some (⟨v1,v14.1.lots,v14.1.products,v14.1.units⟩,v14.2))
      (cond (decide (a1.kind=([116,101,115,116]:List UInt8)))
       (jw (f125 a0 a1) fun v17=>
       some (⟨v1,v17.1.lots,v17.1.products,v17.1.units⟩,v17.2))
       (cond (decide (a1.kind=([105,115,115,117,101]:List UInt8)))
        (jw (f125 a0 a1) fun v20=>
        some (⟨v1,v20.1.lots,v20.1.products,v20.1.units⟩,v20.2))
        (cond (decide (a1.kind=([104,111,108,100]:List UInt8)))
         (jw (f126 a0 a1) fun v23=>
         some (⟨v1,v23.1.lots,v23.1.products,v23.1.units⟩,v23.2))
         (cond (decide (a1.kind=([102,114,101,101]:List UInt8)))
          (jw (f126 a0 a1) fun v26=>
          some (⟨v1,v26.1.lots,v26.1.products,v26.1.units⟩,v26.2))
          (jw (f127 a0 a1) fun v28=>
          some (⟨v1,v28.1.lots,v28.1.products,v28.1.units⟩,v28.2))))))))))
theorem W69 {a0:qc}{a1:ql}{r}(h:f69 a0 a1=some r):jy pr (X pr) 69 [aR a0,aE a1]=some (.tup [aR r.1,Iv r.2],false):=by
 unfold f69 at h
 refine y7 c69 ?_
 repeat' first|(replace h:=jx h;obtain⟨d,g,h⟩:=h;with_reducible first|replace g:=zhx g|replace g:=zay g|replace g:=ze0 g|replace g:=zf8 g|skip)|(replace h:=jz h;rcases h with⟨g,h⟩|⟨g,h⟩)|fail
 all_goals (cases h<;>(simp only[go_sem,seval,c69,zn,*];exact⟨_,rfl⟩))
end Go.Z
end
