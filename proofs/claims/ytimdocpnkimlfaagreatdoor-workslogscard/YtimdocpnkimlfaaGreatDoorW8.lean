/- Chapter 10. -/
import Derived.Test.YtimdocpnkimlfaaGreatDoorW4
set_option linter.unusedVariables false
set_option linter.unusedSimpArgs false
set_option maxRecDepth 100000
set_option maxHeartbeats 4000000
noncomputable section
open Option renaming some→I
open Bool renaming false→Ea,true→Eb
namespace Go.Z
open Go Go.Abs Go.W
def f89 (a0:List UInt8):Option lm:=
 cond (decide (a0=([108,111,116]:List UInt8)))
  (I (⟨2,2,Eb⟩))
  (cond (decide (a0=([112,114,111,100,117,99,116]:List UInt8)))
   (I (⟨1,1,Eb⟩))
   (cond (decide (a0=([105,115,115,117,101]:List UInt8)))
    (I (⟨1,1,Eb⟩))
    (cond (decide (a0=([117,112,100,97,116,101]:List UInt8)))
     (I (⟨1,1,Eb⟩))
     (cond (decide (a0=([104,111,108,100]:List UInt8)))
      (I (⟨1,1,Eb⟩))
      (cond (decide (a0=([102,114,101,101]:List UInt8)))
       (I (⟨1,1,Eb⟩))
       (cond (decide (a0=([115,104,105,112]:List UInt8)))
        (I (⟨1,1,Eb⟩))
        (cond (decide (a0=([99,111,109,112,108,97,105,110]:List UInt8)))
         (I (⟨1,1,Eb⟩))
         (cond (decide (a0=([110,101,101,100]:List UInt8)))
          (I (⟨2,2,Eb⟩))
          (cond (decide (a0=([117,115,101]:List UInt8)))
           (I (⟨2,2,Eb⟩))
           (cond (decide (a0=([109,101,97,115,117,114,101]:List UInt8)))
            (I (⟨2,2,Eb⟩))
            (cond (decide (a0=([116,101,115,116]:List UInt8)))
             (I (⟨2,3,Eb⟩))
             (cond (decide (a0=([98,117,105,108,100]:List UInt8)))
              (I (⟨2,1,Eb⟩))
              (cond (decide (a0=([112,97,105,114]:List UInt8)))
               (I (⟨2,1,Eb⟩))
               (cond (decide (a0=([117,110,100,111]:List UInt8)))
                (I (⟨0,0,Eb⟩))
                (I (⟨0,0,Ea⟩))))))))))))))))
theorem W89 {a0 r}(h:f89 a0=I r):ae pr (X pr) 89 [.str a0]=I (.agg [Iv r.names,Iv r.values,.bool r.known],Ea):=by
 unfold f89 at h
 refine ll F8 ?_
 repeat' first|(replace h:=qc h;rcases h with⟨g,h⟩|⟨g,h⟩)
 all_goals (cases h<;>(simp only[go_sem,seval,F8, *];exact⟨_,rfl⟩))
def wc (a0:aT)(v4:lm)(s0:Int):Option (Int⊕(Unit⊕Int)):=
 cond (decide (s0<v4.names))
  (qe (jn (a0.names.getD []) s0) fun v22=>
  qe (f90 v22) fun v24=>
  cond v24
   (I (.inl (qh .i64 (s0+1))))
   (I (.inr (.inl ()))))
  (I (.inr (.inr s0)))
def JX (a0:aT)(v4:lm)(s0:Int):aV:=⟨[(1,.ax (aE a0),Ea),(3,.ax (.agg [Iv v4.names,Iv v4.values,.bool Eb]),Ea),(4,Iv s0,Ea)],[]⟩
def JY (a0:aT)(v4:lm):Unit⊕Int→je×aV
 | .inl d=>(.ret,⟨[(2,Iv 8,Ea)],[]⟩)
 | .inr d=>(.exit 0,⟨[(1,.ax (aE a0),Ea),(3,.ax (.agg [Iv v4.names,Iv v4.values,.bool Eb]),Ea),(4,Iv d,Ea),(32,.bool Ea,Ea)],[]⟩)
theorem jm3 (a0:aT)(v4:lm)(s0:Int)(r)(h:wc a0 v4 s0=I r):zd pr JZ (JX a0 v4) (JY a0 v4) s0 r:=by
 unfold wc at h
 repeat' first|(replace h:=qa h;obtain⟨d,g,h⟩:=h;with_reducible first|replace g:=W90 g|skip)|(replace h:=qc h;rcases h with⟨g,h⟩|⟨g,h⟩)
 all_goals (cases h<;>((first|refine qy ?_|refine nk ?_);simp only[go_sem,seval,JZ,JX,ri,JY, *]<;>rfl))
theorem jpo (a0:aT)(v4:lm){s0 d}(h:bq (wc a0 v4) s0=I d):X pr (.loop JZ) (JX a0 v4 s0)=I (JY a0 v4 d):=nT (jm3 a0 v4) h
def wh (a0:aT)(v4:lm)(s1:Int):Option (Int⊕(Unit⊕Int)):=
 cond (decide (s1<v4.values))
  (qe (jn (a0.values.getD []) s1) fun pG=>
  qe (f88 pG 0 999999999) fun v46=>
  cond v46
   (I (.inr (.inl ())))
   (I (.inl (qh .i64 (s1+1)))))
  (I (.inr (.inr s1)))
def J0 (a0:aT)(v4:lm)(s1:Int):aV:=⟨[(1,.ax (aE a0),Ea),(3,.ax (.agg [Iv v4.names,Iv v4.values,.bool Eb]),Ea),(5,Iv s1,Ea)],[]⟩
def J1 (a0:aT)(v4:lm):Unit⊕Int→je×aV
 | .inl d=>(.ret,⟨[(2,Iv 3,Ea)],[]⟩)
 | .inr d=>(.exit 2,⟨[(1,.ax (aE a0),Ea),(3,.ax (.agg [Iv v4.names,Iv v4.values,.bool Eb]),Ea),(5,Iv d,Ea),(45,.bool Ea,Ea)],[]⟩)
theorem jog (a0:aT)(v4:lm)(s1:Int)(r)(h:wh a0 v4 s1=I r):zd pr J2 (J0 a0 v4) (J1 a0 v4) s1 r:=by
 unfold wh at h
 repeat' first|(replace h:=qa h;obtain⟨d,g,h⟩:=h;with_reducible first|replace g:=W88 g|skip)|(replace h:=qc h;rcases h with⟨g,h⟩|⟨g,h⟩)
 all_goals (cases h<;>((first|refine qy ?_|refine nk ?_);simp only[go_sem,seval,J2,J0,ri,J1, *]<;>rfl))
theorem jt1 (a0:aT)(v4:lm){s1 d}(h:bq (wh a0 v4) s1=I d):X pr (.loop J2) (J0 a0 v4 s1)=I (J1 a0 v4 d):=nT (jog a0 v4) h
def f33 (a0:aT):Option Int:=
 qe (f88 a0.number 1 1000) fun v1=>
 cond v1
  (I 3)
  (qe (f89 a0.kind) fun v4=>
  cond v4.known
   (cond (decide (((a0.names.getD []).length:Int)=v4.names))
    (cond (decide (((a0.values.getD []).length:Int)=v4.values))
     (qe (bq (wc a0 v4) 0) fun d27=>match d27 with
      | .inl d29=>
       I 8
      | .inr d30=>
       qe (bq (wh a0 v4) 0) fun d49=>match d49 with
        | .inl d51=>
         I 3
        | .inr d52=>
         cond (decide (a0.text=[]))
          (I 0)
          (I 1))
     (I 2))
    (I 2))
   (I 13))
theorem W33 {a0 r}(h:f33 a0=I r):ae pr (X pr) 33 [aE a0]=I (Iv r,Ea):=by
 unfold f33 at h
 refine ll J3 ?_
 repeat' first|(replace h:=qa h;obtain⟨d,g,h⟩:=h;with_reducible first|replace g:=W88 g|replace g:=W89 g|(replace g:=jpo a0 _ g;rcases d with d|d<;>dsimp only[JX,JY,np]at g h)|(replace g:=jt1 a0 _ g;rcases d with d|d<;>dsimp only[J0,J1,np]at g h)|skip)|(replace h:=qc h;rcases h with⟨g,h⟩|⟨g,h⟩)
 all_goals (cases h<;>(simp only[go_sem,seval,J3, *];exact⟨_,rfl⟩))
end Go.Z
end
