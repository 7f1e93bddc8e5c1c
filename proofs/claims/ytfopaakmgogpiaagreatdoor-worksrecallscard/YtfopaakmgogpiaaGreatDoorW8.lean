/- Chapter 10. -/
import Derived.Test.YtfopaakmgogpiaaGreatDoorW4
set_option linter.unusedVariables false
set_option linter.unusedSimpArgs false
set_option maxRecDepth 100000
set_option maxHeartbeats 4000000
noncomputable section
open Option renaming some→I
open Bool renaming false→Eh,true→Ek
namespace Go.Z
open Go Go.Abs Go.W
def zkm (a0:qt)(a1:qt):Unit⊕Int→qi×qg
 | .inl d=>(.ret,⟨[(4,.bool Eh,Eh)],[]⟩)
 | .inr d=>(.exit 0,⟨[(2,.ah (aD a0),Eh),(3,.ah (aD a1),Eh),(5,Iv d,Eh),(27,.bool Eh,Eh)],[]⟩)
def f60 (a0:List UInt8):Option jg:=
 cond (decide (a0=([108,111,116]:List UInt8)))
  (I (⟨2,2,Ek⟩))
  (cond (decide (a0=([112,114,111,100,117,99,116]:List UInt8)))
   (I (⟨1,1,Ek⟩))
   (cond (decide (a0=([105,115,115,117,101]:List UInt8)))
    (I (⟨1,1,Ek⟩))
    (cond (decide (a0=([117,112,100,97,116,101]:List UInt8)))
     (I (⟨1,1,Ek⟩))
     (cond (decide (a0=([104,111,108,100]:List UInt8)))
      (I (⟨1,1,Ek⟩))
      (cond (decide (a0=([102,114,101,101]:List UInt8)))
       (I (⟨1,1,Ek⟩))
       (cond (decide (a0=([115,104,105,112]:List UInt8)))
        (I (⟨1,1,Ek⟩))
        (cond (decide (a0=([99,111,109,112,108,97,105,110]:List UInt8)))
         (I (⟨1,1,Ek⟩))
         (cond (decide (a0=([110,101,101,100]:List UInt8)))
          (I (⟨2,2,Ek⟩))
          (cond (decide (a0=([117,115,101]:List UInt8)))
           (I (⟨2,2,Ek⟩))
           (cond (decide (a0=([109,101,97,115,117,114,101]:List UInt8)))
            (I (⟨2,2,Ek⟩))
            (cond (decide (a0=([116,101,115,116]:List UInt8)))
             (I (⟨2,3,Ek⟩))
             (cond (decide (a0=([98,117,105,108,100]:List UInt8)))
              (I (⟨2,1,Ek⟩))
              (cond (decide (a0=([112,97,105,114]:List UInt8)))
               (I (⟨2,1,Ek⟩))
               (cond (decide (a0=([117,110,100,111]:List UInt8)))
                (I (⟨0,0,Ek⟩))
                (I (⟨0,0,Eh⟩))))))))))))))))
theorem W60 {a0 r}(h:f60 a0=I r):jy pr (X pr) 60 [.str a0]=I (.agg [Iv r.names,Iv r.values,.bool r.known],Eh):=by
 unfold f60 at h
 refine yz Mr ?_
 repeat' first|(replace h:=jz h;rcases h with⟨g,h⟩|⟨g,h⟩)|fail
 all_goals (cases h<;>(simp only[go_sem,seval,Mr, *];exact⟨_,rfl⟩))
def Bw (a0:ql)(v4:jg)(s0:Int):Option (Int⊕(Unit⊕Int)):=
 cond (decide (s0<v4.names))
  (jw (zn (a0.names.getD []) s0) fun eH=>
  jw (f26 eH) fun v24=>
  cond v24
   (I (.inl (j6 .i64 (s0+1))))
   (I (.inr (.inl ()))))
  (I (.inr (.inr s0)))
def Ms (a0:ql)(v4:jg)(s0:Int):qg:=⟨[(1,.ah (aE a0),Eh),(3,.ah (.agg [Iv v4.names,Iv v4.values,.bool Ek]),Eh),(4,Iv s0,Eh)],[]⟩
def Mt (a0:ql)(v4:jg):Unit⊕Int→qi×qg
 | .inl d=>(.ret,⟨[(2,Iv 8,Eh)],[]⟩)
 | .inr d=>(.exit 0,⟨[(1,.ah (aE a0),Eh),(3,.ah (.agg [Iv v4.names,Iv v4.values,.bool Ek]),Eh),(4,Iv d,Eh),(32,.bool Eh,Eh)],[]⟩)
theorem j0k (a0:ql)(v4:jg)(s0:Int)(r)(h:Bw a0 v4 s0=I r):yr pr Mu (Ms a0 v4) (Mt a0 v4) s0 r:=by
 unfold Bw at h
 repeat' first|(replace h:=jx h;obtain⟨d,g,h⟩:=h;with_reducible first|replace g:=W26 g|skip)|(replace h:=jz h;rcases h with⟨g,h⟩|⟨g,h⟩)|fail
 all_goals (cases h<;>(first|(refine zu ?_;simp only[go_sem,seval,Mu,Ms,zj,Mt, *]<;>rfl)|(refine yl ?_;simp only[go_sem,seval,Mu,Ms,zj,Mt, *]<;>rfl)))
theorem jx6 (a0:ql)(v4:jg){s0 d}(h:aY (Bw a0 v4) s0=I d):X pr (.loop Mu) (Ms a0 v4 s0)=I (Mt a0 v4 d):=y8 (j0k a0 v4) (fun d=>by rcases d with d|d<;>(intro hh;cases hh)) h
def Bx (a0:ql)(v4:jg)(s1:Int):Option (Int⊕(Unit⊕Int)):=
 cond (decide (s1<v4.values))
  (jw (zn (a0.values.getD []) s1) fun BR=>
  jw (f59 BR 0 999999999) fun v46=>
  cond v46
   (I (.inr (.inl ())))
   (I (.inl (j6 .i64 (s1+1)))))
  (I (.inr (.inr s1)))
def Mv (a0:ql)(v4:jg)(s1:Int):qg:=⟨[(1,.ah (aE a0),Eh),(3,.ah (.agg [Iv v4.names,Iv v4.values,.bool Ek]),Eh),(5,Iv s1,Eh)],[]⟩
def Mw (a0:ql)(v4:jg):Unit⊕Int→qi×qg
 | .inl d=>(.ret,⟨[(2,Iv 3,Eh)],[]⟩)
 | .inr d=>(.exit 2,⟨[(1,.ah (aE a0),Eh),(3,.ah (.agg [Iv v4.names,Iv v4.values,.bool Ek]),Eh),(5,Iv d,Eh),(45,.bool Eh,Eh)],[]⟩)
theorem jy3 (a0:ql)(v4:jg)(s1:Int)(r)(h:Bx a0 v4 s1=I r):yr pr Mx (Mv a0 v4) (Mw a0 v4) s1 r:=by
 unfold Bx at h
 repeat' first|(replace h:=jx h;obtain⟨d,g,h⟩:=h;with_reducible first|replace g:=XT g|skip)|(replace h:=jz h;rcases h with⟨g,h⟩|⟨g,h⟩)|fail
 all_goals (cases h<;>(first|(refine zu ?_;simp only[go_sem,seval,Mx,Mv,zj,Mw, *]<;>rfl)|(refine yl ?_;simp only[go_sem,seval,Mx,Mv,zj,Mw, *]<;>rfl)))
theorem j2t (a0:ql)(v4:jg){s1 d}(h:aY (Bx a0 v4) s1=I d):X pr (.loop Mx) (Mv a0 v4 s1)=I (Mw a0 v4 d):=y8 (jy3 a0 v4) (fun d=>by rcases d with d|d<;>(intro hh;cases hh)) h
def f12 (a0:ql):Option Int:=
 jw (f59 a0.number 1 1000) fun v1=>
 cond v1
  (I 3)
  (jw (f60 a0.kind) fun v4=>
  cond v4.known
   (cond (decide (((a0.names.getD []).length:Int)=v4.names))
    (cond (decide (((a0.values.getD []).length:Int)=v4.values))
     (jw (aY (Bw a0 v4) 0) fun d27=>match d27 with
      | .inl d29=>
       I 8
      | .inr d30=>
       jw (aY (Bx a0 v4) 0) fun d49=>match d49 with
        | .inl d51=>
         I 3
        | .inr d52=>
         cond (decide (a0.text=[]))
          (I 0)
          (I 1))
     (I 2))
    (I 2))
   (I 13))
theorem W12 {a0 r}(h:f12 a0=I r):jy pr (X pr) 12 [aE a0]=I (Iv r,Eh):=by
 unfold f12 at h
 refine yz Qd ?_
 repeat' first|(replace h:=jx h;obtain⟨d,g,h⟩:=h;with_reducible first|replace g:=XT g|replace g:=W60 g|(replace g:=jx6 a0 _ g;rcases d with d|d<;>dsimp only[Ms,Mt,y7]at g h)|(replace g:=j2t a0 _ g;rcases d with d|d<;>dsimp only[Mv,Mw,y7]at g h)|skip)|(replace h:=jz h;rcases h with⟨g,h⟩|⟨g,h⟩)|fail
 all_goals (cases h<;>(simp only[go_sem,seval,Qd, *];exact⟨_,rfl⟩))
end Go.Z
end
