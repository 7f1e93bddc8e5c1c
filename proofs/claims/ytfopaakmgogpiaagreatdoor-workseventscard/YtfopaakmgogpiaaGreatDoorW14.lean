/- Chapter 10. -/
import Derived.Test.YtfopaakmgogpiaaGreatDoorW6
import Derived.Test.YtfopaakmgogpiaaGreatDoorCA
import Derived.Test.YtfopaakmgogpiaaGreatDoorAbsL
import Derived.Test.YtfopaakmgogpiaaGreatDoorW12
set_option linter.unusedVariables false
set_option linter.unusedSimpArgs false
set_option maxRecDepth 100000
set_option maxHeartbeats 4000000
noncomputable section
namespace Go.Z
open Go Go.Abs Go.W
def f11 (a0:ql):Option Int:=
 jw (f52 a0.number 1 1000) fun v1=>
 jw (f53 (!(qoh a0.kind)) 13) fun v3=>
 jw (f53 (!(decide (((a0.names.getD []).length:Int)=((yu a0.kind).length:Int))&&decide (((a0.values.getD []).length:Int)=(qdb a0.kind)))) 2) fun v5=>
 jw (f51 (some [v1,v3,v5])) fun v7=>
 cond (decide (v7=0))
  (jw (f54 a0.names) fun v10=>
  jw (f57 a0.values) fun v12=>
  jw (f51 v10.1) fun v14=>
  jw (f51 v12.1) fun v16=>
  jw (f53 (!decide (a0.text=[])) 1) fun v18=>
  jw (f51 (some [v14,v16,v18])) fun v20=>
  some v20)
  (some v7)
theorem W11 {a0:ql}{r}(h:f11 a0=some r):jy pr (X pr) 11 [aE a0]=some (Iv r,false):=by
 unfold f11 at h
 refine y7 c11 ?_
 repeat' first|(replace h:=jx h;obtain⟨d,g,h⟩:=h; (with_reducible first|replace g:=W52 g|replace g:=W53 g|replace g:=W51 g|replace g:=W54 g|replace g:=W57 g|skip);try dsimp only[kc,qfs,List.map,kr,qae,z7,zr,vun,yb,vev,vsi,zz,qab,aE,aR,aU,aL,aP,aD]at g)|(replace h:=jz h;rcases h with⟨g,h⟩|⟨g,h⟩)|fail
 all_goals (cases h<;>(simp only[go_sem,seval,c11,jk5,*];exact⟨_,rfl⟩))
end Go.Z
namespace Go.Z
open Go Go.Abs Go.W
def qgb (a0:Option (List ql))(s0:(Option (List ql))×(Option (List qc))×Int×Bool×Bool):Option (((Option (List ql))×(Option (List qc))×Int×Bool×Bool)⊕((Int×Int×Int×(Option (List qj))×(Option (List qi))×(Option (List qf)))⊕((Option (List ql))×Bool×(Option (List qc))×Bool×Int))):=
 cond (decide (s0.2.2.1<((a0.getD []).length:Int)))
  (jw (zo (a0.getD []) s0.2.2.1) fun v75=>
  jw (f12 v75) fun v77=>
  cond (decide (v77=0))
   (cond (decide (v75.number=(j6 .i64 (s0.2.2.1+1))))
    (cond (decide (v75.kind=([117,110,100,111]:List UInt8)))
     (cond (decide (((s0.1.getD []).length:Int)=0))
      (some (.inr (.inl (j6 .i64 (s0.2.2.1+1),12,0,none,none,none))))
      (jw (zo (s0.1.getD []) (j6 .i64 (((s0.1.getD []).length:Int)-1))) fun v83=>
      cond (decide (v83.kind=([115,104,105,112]:List UInt8)))
       (some (.inr (.inl (j6 .i64 (s0.2.2.1+1),19,0,none,none,none))))
       (jw (qlq s0.1 none (some (j6 .i64 (((s0.1.getD []).length:Int)-1)))) fun v86=>
       jw (qlq s0.2.1 none (some ((s0.1.getD []).length:Int))) fun v88=>
       some (.inl (v86,v88,j6 .i64 (s0.2.2.1+1),false,false)))))
     (jw (zo (s0.2.1.getD []) ((s0.1.getD []).length:Int)) fun v90=>
     jw (f69 v90 v75) fun v92=>
     cond (decide (v92.2=0))
      (jw (apO (some []) (s0.1.getD [])) fun v95=>
      jw (apO v95 [v75]) fun v97=>
      jw (apO (some []) (s0.2.1.getD [])) fun v99=>
      jw (apO v99 [v92.1]) fun v101=>
      some (.inl (v97,v101,j6 .i64 (s0.2.2.1+1),true,true)))
      (some (.inr (.inl (j6 .i64 (s0.2.2.1+1),v92.2,v92.1.day,v92.1.lots,v92.1.products,v92.1.units))))))
    (some (.inr (.inl (j6 .i64 (s0.2.2.1+1),11,0,none,none,none)))))
   (some (.inr (.inl (j6 .i64 (s0.2.2.1+1),v77,0,none,none,none)))))
  (some (.inr (.inr (s0.1,s0.2.2.2.1,s0.2.1,s0.2.2.2.2,s0.2.2.1))))
def qiy (a0:Option (List ql))(s0:(Option (List ql))×(Option (List qc))×Int×Bool×Bool):qg:=⟨[(0,sl 5 vev a0,false),(3,.ptr 0 0,false),(6,sl 5 vev s0.1,s0.2.2.2.1),(7,sl 4 yb s0.2.1,s0.2.2.2.2),(8,Iv s0.2.2.1,false)],[kZ]⟩
def qno (a0:Option (List ql)):(Int×Int×Int×(Option (List qj))×(Option (List qi))×(Option (List qf)))⊕((Option (List ql))×Bool×(Option (List qc))×Bool×Int)→qo×qg
 | .inl d=>(.ret,⟨[(2,Nl,false),(3,.ptr 0 0,false),(4,Iv d.1,false),(5,Iv d.2.1,false)],[kZ,.cells [(Iv d.2.2.1,false),(sl 5 z7 d.2.2.2.1,false),(sl 4 zr d.2.2.2.2.1,false),(sl 8 vun d.2.2.2.2.2,false)]]⟩)
 | .inr d=>(.exit 0,⟨[(0,sl 5 vev a0,false),(3,.ptr 0 0,false),(6,sl 5 vev d.1,d.2.1),(7,sl 4 yb d.2.2.1,d.2.2.2.1),(8,Iv d.2.2.2.2,false),(21,.bool false,false)],[kZ]⟩)
theorem j5r (a0:Option (List ql))(s0:(Option (List ql))×(Option (List qc))×Int×Bool×Bool)(r)(h:qgb a0 s0=some r):yq pr qtp (qiy a0) (qno a0) s0 r:=by
 unfold qgb at h
 repeat' first|(replace h:=jx h;obtain⟨d,g,h⟩:=h;with_reducible first|replace g:=W12 g|replace g:=W69 g|replace g:=jo0 g|replace g:=ja2 g|replace g:=jln g|skip)|(replace h:=jz h;rcases h with⟨g,h⟩|⟨g,h⟩)|fail
 all_goals (cases h<;>(first|(refine zw ?_;simp only[go_sem,seval,qtp,qiy,zn,qno,qa0,*]<;>rfl)|(refine yl ?_;simp only[go_sem,seval,qtp,qiy,zn,qno,qa0,*]<;>rfl)|(refine q6k ?_ rfl (by first|simp only[go_sem,seval,qiy]|rfl) (by first|simp only[go_sem,seval,qiy]|rfl);simp only[go_sem,seval,qtp,qiy,zn,qno,qa0,*];exact⟨_,rfl⟩)))
theorem jzi (a0:Option (List ql)){s0:(Option (List ql))×(Option (List qc))×Int×Bool×Bool}{d}(h:itO (qgb a0) s0=some d):X pr (.loop qtp) (qiy a0 s0)=some (qno a0 d):=y8 (j5r a0) (fun d=>by rcases d with d|d<;>(intro hh;cases hh)) h
def f49 (a0:Option (List ql)):Option ((Option (List ql))×qc×Int×Int):=
 cond (decide (1000<((a0.getD []).length:Int)))
  (some (none,⟨0,none,none,none⟩,0,5))
  (jw (itO (qgb a0) (none,some [⟨0,none,none,none⟩],0,false,true)) fun d103=>match d103 with
   | .inl d105=>
    some (none,⟨0,none,none,none⟩,d105.1,d105.2.1)
   | .inr d106=>
    jw (zo (d106.2.2.1.getD []) ((d106.1.getD []).length:Int)) fun v107=>
    some (d106.1,v107,0,0))
theorem W49 {a0:Option (List ql)}{r}(h:f49 a0=some r):jy pr (X pr) 49 [sl 5 vev a0]=some (.tup [sl 5 vev r.1,aR r.2.1,Iv r.2.2.1,Iv r.2.2.2],false):=by
 unfold f49 at h
 refine y7 c49 ?_
 repeat' first|(replace h:=jx h;obtain⟨d,g,h⟩:=h; (with_reducible first|(replace g:=jzi a0 g;rcases d with d|d<;>dsimp only[qiy,qno,kc,qfs,List.map,kr,qae,z7,zr,vun,yb,vev,vsi,zz,qab]at g h)|skip);try dsimp only[kc,qfs,List.map,kr,qae,z7,zr,vun,yb,vev,vsi,zz,qab,aE,aR,aU,aL,aP,aD]at g)|(replace h:=jz h;rcases h with⟨g,h⟩|⟨g,h⟩)|fail
 all_goals (cases h<;>(simp only[go_sem,seval,c49,zn,*];exact⟨_,rfl⟩))
def f10 (a0:Option (List ql)):Option (qc×Int×Int):=
 jw (f49 a0) fun v1=>
 some (v1.2.1,v1.2.2.1,v1.2.2.2)
theorem W10 {a0:Option (List ql)}{r}(h:f10 a0=some r):jy pr (X pr) 10 [sl 5 vev a0]=some (.tup [aR r.1,Iv r.2.1,Iv r.2.2],false):=by
 unfold f10 at h
 refine y7 c10 ?_
 repeat' first|(replace h:=jx h;obtain⟨d,g,h⟩:=h;with_reducible first|replace g:=W49 g|skip)|(replace h:=jz h;rcases h with⟨g,h⟩|⟨g,h⟩)|fail
 all_goals (cases h<;>(simp only[go_sem,seval,c10,*];exact⟨_,rfl⟩))
def f16 (a0:Option (List ql))(a1:ql):Option Int:=
 jw (f10 a0) fun v1=>
 cond (decide (v1.2.2=0))
  (jw (f12 a1) fun v4=>
  cond (decide (v4=0))
   (cond (decide (1000≤((a0.getD []).length:Int)))
    (some 5)
    (jw (apO (some []) (a0.getD [])) fun v8=>
    jw (apO v8 [a1]) fun v10=>
    jw (f10 v10) fun v12=>
    some v12.2.2))
   (some v4))
  (some v1.2.2)
theorem W16 {a0:Option (List ql)}{a1:ql}{r}(h:f16 a0 a1=some r):jy pr (X pr) 16 [sl 5 vev a0,aE a1]=some (Iv r,false):=by
 unfold f16 at h
 refine y7 c16 ?_
 repeat' first|(replace h:=jx h;obtain⟨d,g,h⟩:=h;with_reducible first|replace g:=W10 g|replace g:=W12 g|replace g:=ja2 g|skip)|(replace h:=jz h;rcases h with⟨g,h⟩|⟨g,h⟩)|fail
 all_goals (cases h<;>(simp only[go_sem,seval,c16,qa0,*];exact⟨_,rfl⟩))
end Go.Z
end
