/- Chapter 10. -/
import Derived.Test.YtfopaakmgogpiaaGreatDoorW6
import Derived.Test.YtfopaakmgogpiaaGreatDoorCA
import Derived.Test.YtfopaakmgogpiaaGreatDoorAbsL
import Derived.Test.YtfopaakmgogpiaaGreatDoorW12
set_option linter.unusedVariables false
set_option linter.unusedSimpArgs false
set_option maxRecDepth 100000
set_option maxHeartbeats 4000000
namespace Go.Z
open Go Go.Abs Go.W
noncomputable def f11 (a0:GEv):Option Int:=
 qa (f52 a0.number 1 1000) fun v1=>
 qa (f53 (!(qlt a0.kind)) 13) fun v3=>
 qa (f53 (!(decide (((a0.names.getD []).length:Int)=((j8 a0.kind).length:Int)) && decide (((a0.values.getD []).length:Int)=(qbx a0.kind)))) 2) fun v5=>
 qa (f51 (some [v1,v3,v5])) fun v7=>
 cond (decide (v7=0))
  (qa (f54 a0.names) fun v10=>
  qa (f57 a0.values) fun v12=>
  qa (f51 v10.1) fun v14=>
  qa (f51 v12.1) fun v16=>
  qa (f53 (!decide (a0.text=[])) 1) fun v18=>
  qa (f51 (some [v14,v16,v18])) fun v20=>
  some v20)
  (some v7)
theorem W11 {a0:GEv} {r} (h:f11 a0=some r):qc pr (X pr) 11 [aE a0]=some (Iv r,false):=by
 unfold f11 at h
 refine zg c11 ?_
 repeat' first | (replace h:=qb h; obtain ⟨d,g,h⟩:=h; (with_reducible first | replace g:=W52 g | replace g:=W53 g | replace g:=W51 g | replace g:=W54 g | replace g:=W57 g | skip); try dsimp only [zi,qem,List.map,zw,ye,jg,qz,vun,jj,vev,vsi,je,yb,aE,aR,aU,aL,aP,aD] at g) | (replace h:=qd h; rcases h with ⟨g,h⟩ | ⟨g,h⟩) | fail
 all_goals (cases h <;> (simp only [go_sem,seval,c11,jku,*]; exact ⟨_,rfl⟩))
end Go.Z
namespace Go.Z
open Go Go.Abs Go.W
noncomputable def qev (a0:Option (List GEv)) (s0:(Option (List GEv)) × (Option (List GReg)) × Int × Bool × Bool):Option (((Option (List GEv)) × (Option (List GReg)) × Int × Bool × Bool) ⊕ ((Int × Int × Int × (Option (List qt)) × (Option (List GProd)) × (Option (List GUn))) ⊕ ((Option (List GEv)) × Bool × (Option (List GReg)) × Bool × Int))):=
 cond (decide (s0.2.2.1 < ((a0.getD []).length:Int)))
  (qa (qw (a0.getD []) s0.2.2.1) fun v75=>
  qa (f12 v75) fun v77=>
  cond (decide (v77=0))
   (cond (decide (v75.number=(qe .i64 (s0.2.2.1 + 1))))
    (cond (decide (v75.kind=([117,110,100,111]:List UInt8)))
     (cond (decide (((s0.1.getD []).length:Int)=0))
      (some (.inr (.inl (qe .i64 (s0.2.2.1 + 1),12,0,none,none,none))))
      (qa (qw (s0.1.getD []) (qe .i64 (((s0.1.getD []).length:Int) - 1))) fun v83=>
      cond (decide (v83.kind=([115,104,105,112]:List UInt8)))
       (some (.inr (.inl (qe .i64 (s0.2.2.1 + 1),19,0,none,none,none))))
       (qa (qj8 s0.1 none (some (qe .i64 (((s0.1.getD []).length:Int) - 1)))) fun v86=>
       qa (qj8 s0.2.1 none (some ((s0.1.getD []).length:Int))) fun v88=>
       some (.inl (v86,v88,qe .i64 (s0.2.2.1 + 1),false,false)))))
     (qa (qw (s0.2.1.getD []) ((s0.1.getD []).length:Int)) fun v90=>
     qa (f69 v90 v75) fun v92=>
     cond (decide (v92.2=0))
      (qa (apO (some []) (s0.1.getD [])) fun v95=>
      qa (apO v95 [v75]) fun v97=>
      qa (apO (some []) (s0.2.1.getD [])) fun v99=>
      qa (apO v99 [v92.1]) fun v101=>
      some (.inl (v97,v101,qe .i64 (s0.2.2.1 + 1),true,true)))
      (some (.inr (.inl (qe .i64 (s0.2.2.1 + 1),v92.2,v92.1.day,v92.1.lots,v92.1.products,v92.1.units))))))
    (some (.inr (.inl (qe .i64 (s0.2.2.1 + 1),11,0,none,none,none)))))
   (some (.inr (.inl (qe .i64 (s0.2.2.1 + 1),v77,0,none,none,none)))))
  (some (.inr (.inr (s0.1,s0.2.2.2.1,s0.2.1,s0.2.2.2.2,s0.2.2.1))))
def qhu (a0:Option (List GEv)) (s0:(Option (List GEv)) × (Option (List GReg)) × Int × Bool × Bool):ASt:=⟨[(0,sl 5 vev a0,false),(3,.ptr 0 0,false),(6,sl 5 vev s0.1,s0.2.2.2.1),(7,sl 4 jj s0.2.1,s0.2.2.2.2),(8,Iv s0.2.2.1,false)],[kZ]⟩
def qlx (a0:Option (List GEv)):(Int × Int × Int × (Option (List qt)) × (Option (List GProd)) × (Option (List GUn))) ⊕ ((Option (List GEv)) × Bool × (Option (List GReg)) × Bool × Int)→jd × ASt
 | .inl d=>(.ret,⟨[(2,Nl,false),(3,.ptr 0 0,false),(4,Iv d.1,false),(5,Iv d.2.1,false)],[kZ,.cells [(Iv d.2.2.1,false),(sl 5 jg d.2.2.2.1,false),(sl 4 qz d.2.2.2.2.1,false),(sl 8 vun d.2.2.2.2.2,false)]]⟩)
 | .inr d=>(.exit 0,⟨[(0,sl 5 vev a0,false),(3,.ptr 0 0,false),(6,sl 5 vev d.1,d.2.1),(7,sl 4 jj d.2.2.1,d.2.2.2.1),(8,Iv d.2.2.2.2,false),(21,.bool false,false)],[kZ]⟩)
theorem j2o (a0:Option (List GEv)) (s0:(Option (List GEv)) × (Option (List GReg)) × Int × Bool × Bool) (r) (h:qev a0 s0=some r):jy pr qsf (qhu a0) (qlx a0) s0 r:=by
 unfold qev at h
 repeat' first | (replace h:=qb h; obtain ⟨d,g,h⟩:=h; with_reducible first | replace g:=W12 g | replace g:=W69 g | replace g:=jn2 g | replace g:=q90 g | replace g:=jk8 g | skip) | (replace h:=qd h; rcases h with ⟨g,h⟩ | ⟨g,h⟩) | fail
 all_goals (cases h <;> (first | (refine jb ?_; simp only [go_sem,seval,qsf,qhu,qv,qlx,ke,*] <;> rfl) | (refine js ?_; simp only [go_sem,seval,qsf,qhu,qv,qlx,ke,*] <;> rfl) | (refine q5c ?_ rfl (by first | simp only [go_sem,seval,qhu] | rfl) (by first | simp only [go_sem,seval,qhu] | rfl); simp only [go_sem,seval,qsf,qhu,qv,qlx,ke,*]; exact ⟨_,rfl⟩)))
theorem jwc (a0:Option (List GEv)) {s0:(Option (List GEv)) × (Option (List GReg)) × Int × Bool × Bool} {d} (h:itO (qev a0) s0=some d):X pr (.loop qsf) (qhu a0 s0)=some (qlx a0 d):=zf (j2o a0) (fun d=>by rcases d with d|d <;> (intro hh; cases hh)) h
noncomputable def f49 (a0:Option (List GEv)):Option ((Option (List GEv)) × GReg × Int × Int):=
 cond (decide (1000 < ((a0.getD []).length:Int)))
  (some (none,⟨0,none,none,none⟩,0,5))
  (qa (itO (qev a0) (none,some [⟨0,none,none,none⟩],0,false,true)) fun d103=>match d103 with
   | .inl d105=>
    some (none,⟨0,none,none,none⟩,d105.1,d105.2.1)
   | .inr d106=>
    qa (qw (d106.2.2.1.getD []) ((d106.1.getD []).length:Int)) fun v107=>
    some (d106.1,v107,0,0))
theorem W49 {a0:Option (List GEv)} {r} (h:f49 a0=some r):qc pr (X pr) 49 [sl 5 vev a0]=some (.tup [sl 5 vev r.1,aR r.2.1,Iv r.2.2.1,Iv r.2.2.2],false):=by
 unfold f49 at h
 refine zg c49 ?_
 repeat' first | (replace h:=qb h; obtain ⟨d,g,h⟩:=h; (with_reducible first | (replace g:=jwc a0 g; rcases d with d | d <;> dsimp only [qhu,qlx,zi,qem,List.map,zw,ye,jg,qz,vun,jj,vev,vsi,je,yb] at g h) | skip); try dsimp only [zi,qem,List.map,zw,ye,jg,qz,vun,jj,vev,vsi,je,yb,aE,aR,aU,aL,aP,aD] at g) | (replace h:=qd h; rcases h with ⟨g,h⟩ | ⟨g,h⟩) | fail
 all_goals (cases h <;> (simp only [go_sem,seval,c49,qv,*]; exact ⟨_,rfl⟩))
noncomputable def f10 (a0:Option (List GEv)):Option (GReg × Int × Int):=
 qa (f49 a0) fun v1=>
 some (v1.2.1,v1.2.2.1,v1.2.2.2)
theorem W10 {a0:Option (List GEv)} {r} (h:f10 a0=some r):qc pr (X pr) 10 [sl 5 vev a0]=some (.tup [aR r.1,Iv r.2.1,Iv r.2.2],false):=by
 unfold f10 at h
 refine zg c10 ?_
 repeat' first | (replace h:=qb h; obtain ⟨d,g,h⟩:=h; with_reducible first | replace g:=W49 g | skip) | (replace h:=qd h; rcases h with ⟨g,h⟩ | ⟨g,h⟩) | fail
 all_goals (cases h <;> (simp only [go_sem,seval,c10,*]; exact ⟨_,rfl⟩))
noncomputable def f16 (a0:Option (List GEv)) (a1:GEv):Option Int:=
 qa (f10 a0) fun v1=>
 cond (decide (v1.2.2=0))
  (qa (f12 a1) fun v4=>
  cond (decide (v4=0))
   (cond (decide (1000≤((a0.getD []).length:Int)))
    (some 5)
    (qa (apO (some []) (a0.getD [])) fun v8=>
    qa (apO v8 [a1]) fun v10=>
    qa (f10 v10) fun v12=>
    some v12.2.2))
   (some v4))
  (some v1.2.2)
theorem W16 {a0:Option (List GEv)} {a1:GEv} {r} (h:f16 a0 a1=some r):qc pr (X pr) 16 [sl 5 vev a0,aE a1]=some (Iv r,false):=by
 unfold f16 at h
 refine zg c16 ?_
 repeat' first | (replace h:=qb h; obtain ⟨d,g,h⟩:=h; with_reducible first | replace g:=W10 g | replace g:=W12 g | replace g:=q90 g | skip) | (replace h:=qd h; rcases h with ⟨g,h⟩ | ⟨g,h⟩) | fail
 all_goals (cases h <;> (simp only [go_sem,seval,c16,ke,*]; exact ⟨_,rfl⟩))
end Go.Z
