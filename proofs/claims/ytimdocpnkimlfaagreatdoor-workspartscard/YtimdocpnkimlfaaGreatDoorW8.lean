/- Chapter 10. -/
import Derived.Test.YtimdocpnkimlfaaGreatDoorW4
set_option linter.unusedVariables false
set_option linter.unusedSimpArgs false
set_option maxRecDepth 100000
set_option maxHeartbeats 4000000
noncomputable section
open Option renaming some→I
open Bool renaming false→En,true→Ey
namespace Go.Z
open Go Go.Abs Go.W
def f89 (a0:List UInt8):Option rV:=
 cond (decide (a0=([108,111,116]:List UInt8)))
  (I (⟨2,2,Ey⟩))
  (cond (decide (a0=([112,114,111,100,117,99,116]:List UInt8)))
   (I (⟨1,1,Ey⟩))
   (cond (decide (a0=([105,115,115,117,101]:List UInt8)))
    (I (⟨1,1,Ey⟩))
    (cond (decide (a0=([117,112,100,97,116,101]:List UInt8)))
     (I (⟨1,1,Ey⟩))
     (cond (decide (a0=([104,111,108,100]:List UInt8)))
      (I (⟨1,1,Ey⟩))
      (cond (decide (a0=([102,114,101,101]:List UInt8)))
       (I (⟨1,1,Ey⟩))
       (cond (decide (a0=([115,104,105,112]:List UInt8)))
        (I (⟨1,1,Ey⟩))
        (cond (decide (a0=([99,111,109,112,108,97,105,110]:List UInt8)))
         (I (⟨1,1,Ey⟩))
         (cond (decide (a0=([110,101,101,100]:List UInt8)))
          (I (⟨2,2,Ey⟩))
          (cond (decide (a0=([117,115,101]:List UInt8)))
           (I (⟨2,2,Ey⟩))
           (cond (decide (a0=([109,101,97,115,117,114,101]:List UInt8)))
            (I (⟨2,2,Ey⟩))
            (cond (decide (a0=([116,101,115,116]:List UInt8)))
             (I (⟨2,3,Ey⟩))
             (cond (decide (a0=([98,117,105,108,100]:List UInt8)))
              (I (⟨2,1,Ey⟩))
              (cond (decide (a0=([112,97,105,114]:List UInt8)))
               (I (⟨2,1,Ey⟩))
               (cond (decide (a0=([117,110,100,111]:List UInt8)))
                (I (⟨0,0,Ey⟩))
                (I (⟨0,0,En⟩))))))))))))))))
theorem W89 {a0 r}(h:f89 a0=I r):qc pr (X pr) 89 [.str a0]=I (.agg [Iv r.names,Iv r.values,.bool r.known],En):=by
 unfold f89 at h
 refine zh KO ?_
 repeat' first|(replace h:=qd h;rcases h with⟨g,h⟩|⟨g,h⟩)
 all_goals (cases h<;>(simp only[go_sem,seval,KO, *];exact⟨_,rfl⟩))
def Ct (a0:GEv)(v4:rV)(s0:Int):Option (Int⊕(Unit⊕Int)):=
 cond (decide (s0<v4.names))
  (qa (qr (a0.names.getD []) s0) fun v22=>
  qa (f90 v22) fun v24=>
  cond v24
   (I (.inl (qe .i64 (s0+1))))
   (I (.inr (.inl ()))))
  (I (.inr (.inr s0)))
def Q7 (a0:GEv)(v4:rV)(s0:Int):bf:=⟨[(1,.ah (aE a0),En),(3,.ah (.agg [Iv v4.names,Iv v4.values,.bool Ey]),En),(4,Iv s0,En)],[]⟩
def Q9 (a0:GEv)(v4:rV):Unit⊕Int→jf×bf
 | .inl d=>(.ret,⟨[(2,Iv 8,En)],[]⟩)
 | .inr d=>(.exit 0,⟨[(1,.ah (aE a0),En),(3,.ah (.agg [Iv v4.names,Iv v4.values,.bool Ey]),En),(4,Iv d,En),(32,.bool En,En)],[]⟩)
theorem j3l (a0:GEv)(v4:rV)(s0:Int)(r)(h:Ct a0 v4 s0=I r):jz pr Ra (Q7 a0 v4) (Q9 a0 v4) s0 r:=by
 unfold Ct at h
 repeat' first|(replace h:=qb h;obtain⟨d,g,h⟩:=h;with_reducible first|replace g:=W90 g|skip)|(replace h:=qd h;rcases h with⟨g,h⟩|⟨g,h⟩)
 all_goals (cases h<;>((first|refine qz ?_|refine jp ?_);simp only[go_sem,seval,Ra,Q7,jg,Q9, *]<;>rfl))
theorem j04 (a0:GEv)(v4:rV){s0 d}(h:bm (Ct a0 v4) s0=I d):X pr (.loop Ra) (Q7 a0 v4 s0)=I (Q9 a0 v4 d):=zj (j3l a0 v4) h
def Cu (a0:GEv)(v4:rV)(s1:Int):Option (Int⊕(Unit⊕Int)):=
 cond (decide (s1<v4.values))
  (qa (qr (a0.values.getD []) s1) fun CZ=>
  qa (f88 CZ 0 999999999) fun v46=>
  cond v46
   (I (.inr (.inl ())))
   (I (.inl (qe .i64 (s1+1)))))
  (I (.inr (.inr s1)))
def Rb (a0:GEv)(v4:rV)(s1:Int):bf:=⟨[(1,.ah (aE a0),En),(3,.ah (.agg [Iv v4.names,Iv v4.values,.bool Ey]),En),(5,Iv s1,En)],[]⟩
def Rc (a0:GEv)(v4:rV):Unit⊕Int→jf×bf
 | .inl d=>(.ret,⟨[(2,Iv 3,En)],[]⟩)
 | .inr d=>(.exit 2,⟨[(1,.ah (aE a0),En),(3,.ah (.agg [Iv v4.names,Iv v4.values,.bool Ey]),En),(5,Iv d,En),(45,.bool En,En)],[]⟩)
theorem j5n (a0:GEv)(v4:rV)(s1:Int)(r)(h:Cu a0 v4 s1=I r):jz pr Rf (Rb a0 v4) (Rc a0 v4) s1 r:=by
 unfold Cu at h
 repeat' first|(replace h:=qb h;obtain⟨d,g,h⟩:=h;with_reducible first|replace g:=Zf g|skip)|(replace h:=qd h;rcases h with⟨g,h⟩|⟨g,h⟩)
 all_goals (cases h<;>((first|refine qz ?_|refine jp ?_);simp only[go_sem,seval,Rf,Rb,jg,Rc, *]<;>rfl))
theorem j21 (a0:GEv)(v4:rV){s1 d}(h:bm (Cu a0 v4) s1=I d):X pr (.loop Rf) (Rb a0 v4 s1)=I (Rc a0 v4 d):=zj (j5n a0 v4) h
def f33 (a0:GEv):Option Int:=
 qa (f88 a0.number 1 1000) fun v1=>
 cond v1
  (I 3)
  (qa (f89 a0.kind) fun v4=>
  cond v4.known
   (cond (decide (((a0.names.getD []).length:Int)=v4.names))
    (cond (decide (((a0.values.getD []).length:Int)=v4.values))
     (qa (bm (Ct a0 v4) 0) fun d27=>match d27 with
      | .inl d29=>
       I 8
      | .inr d30=>
       qa (bm (Cu a0 v4) 0) fun d49=>match d49 with
        | .inl d51=>
         I 3
        | .inr d52=>
         cond (decide (a0.text=[]))
          (I 0)
          (I 1))
     (I 2))
    (I 2))
   (I 13))
theorem W33 {a0 r}(h:f33 a0=I r):qc pr (X pr) 33 [aE a0]=I (Iv r,En):=by
 unfold f33 at h
 refine zh Rg ?_
 repeat' first|(replace h:=qb h;obtain⟨d,g,h⟩:=h;with_reducible first|replace g:=Zf g|replace g:=W89 g|(replace g:=j04 a0 _ g;rcases d with d|d<;>dsimp only[Q7,Q9,zk]at g h)|(replace g:=j21 a0 _ g;rcases d with d|d<;>dsimp only[Rb,Rc,zk]at g h)|skip)|(replace h:=qd h;rcases h with⟨g,h⟩|⟨g,h⟩)
 all_goals (cases h<;>(simp only[go_sem,seval,Rg, *];exact⟨_,rfl⟩))
end Go.Z
end
