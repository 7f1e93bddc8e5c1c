/- Chapter 10. -/
import Derived.Test.YtfopaakmgogpiaaGreatDoorW4
set_option linter.unusedVariables false
set_option linter.unusedSimpArgs false
set_option maxRecDepth 100000
set_option maxHeartbeats 4000000
noncomputable section
open Option renaming some→I
open Bool renaming false→Eh,true→El
namespace Go.Z
open Go Go.Abs Go.W
def zid (a0:qt)(a1:qt):Unit⊕Int→qo×qh
 | .inl d=>(.ret,⟨[(4,.bool Eh,Eh)],[]⟩)
 | .inr d=>(.exit 0,⟨[(2,.ah (aD a0),Eh),(3,.ah (aD a1),Eh),(5,Iv d,Eh),(27,.bool Eh,Eh)],[]⟩)
def f60 (a0:List UInt8):Option ji:=
 cond (decide (a0=([108,111,116]:List UInt8)))
  (I (⟨2,2,El⟩))
  (cond (decide (a0=([112,114,111,100,117,99,116]:List UInt8)))
   (I (⟨1,1,El⟩))
   (cond (decide (a0=([105,115,115,117,101]:List UInt8)))
    (I (⟨1,1,El⟩))
    (cond (decide (a0=([117,112,100,97,116,101]:List UInt8)))
     (I (⟨1,1,El⟩))
     (cond (decide (a0=([104,111,108,100]:List UInt8)))
      (I (⟨1,1,El⟩))
      (cond (decide (a0=([102,114,101,101]:List UInt8)))
       (I (⟨1,1,El⟩))
       (cond (decide (a0=([115,104,105,112]:List UInt8)))
        (I (⟨1,1,El⟩))
        (cond (decide (a0=([99,111,109,112,108,97,105,110]:List UInt8)))
         (I (⟨1,1,El⟩))
         (cond (decide (a0=([110,101,101,100]:List UInt8)))
          (I (⟨2,2,El⟩))
          (cond (decide (a0=([117,115,101]:List UInt8)))
           (I (⟨2,2,El⟩))
           (cond (decide (a0=([109,101,97,115,117,114,101]:List UInt8)))
            (I (⟨2,2,El⟩))
            (cond (decide (a0=([116,101,115,116]:List UInt8)))
             (I (⟨2,3,El⟩))
             (cond (decide (a0=([98,117,105,108,100]:List UInt8)))
              (I (⟨2,1,El⟩))
              (cond (decide (a0=([112,97,105,114]:List UInt8)))
               (I (⟨2,1,El⟩))
               (cond (decide (a0=([117,110,100,111]:List UInt8)))
                (I (⟨0,0,El⟩))
                (I (⟨0,0,Eh⟩))))))))))))))))
theorem W60 {a0:List UInt8}{r}(h:f60 a0=I r):jz pr (X pr) 60 [.str a0]=I (.agg [Iv r.names,Iv r.values,.bool r.known],Eh):=by
 unfold f60 at h
 refine yt K1 ?_
 repeat' first|(replace h:=j6 h;rcases h with⟨g,h⟩|⟨g,h⟩)|fail
 all_goals (cases h<;>(simp only[go_sem,seval,K1, *];exact⟨_,rfl⟩))
def A2 (a0:ql)(v4:ji)(s0:Int):Option (Int⊕(Unit⊕Int)):=
 cond (decide (s0<v4.names))
  (jx (zq (a0.names.getD []) s0) fun eJ=>
  jx (f26 eJ) fun v24=>
  cond v24
   (I (.inl (j9 .i64 (s0+1))))
   (I (.inr (.inl ()))))
  (I (.inr (.inr s0)))
def K3 (a0:ql)(v4:ji)(s0:Int):qh:=⟨[(1,.ah (aE a0),Eh),(3,.ah (.agg [Iv v4.names,Iv v4.values,.bool El]),Eh),(4,Iv s0,Eh)],[]⟩
def K4 (a0:ql)(v4:ji):Unit⊕Int→qo×qh
 | .inl d=>(.ret,⟨[(2,Iv 8,Eh)],[]⟩)
 | .inr d=>(.exit 0,⟨[(1,.ah (aE a0),Eh),(3,.ah (.agg [Iv v4.names,Iv v4.values,.bool El]),Eh),(4,Iv d,Eh),(32,.bool Eh,Eh)],[]⟩)
theorem jx5 (a0:ql)(v4:ji)(s0:Int)(r)(h:A2 a0 v4 s0=I r):y5 pr K5 (K3 a0 v4) (K4 a0 v4) s0 r:=by
 unfold A2 at h
 repeat' first|(replace h:=jy h;obtain⟨d,g,h⟩:=h;with_reducible first|replace g:=W26 g|skip)|(replace h:=j6 h;rcases h with⟨g,h⟩|⟨g,h⟩)|fail
 all_goals (cases h<;>(first|(refine z6 ?_;simp only[go_sem,seval,K5,K3,zn,K4, *]<;>rfl)|(refine yo ?_;simp only[go_sem,seval,K5,K3,zn,K4, *]<;>rfl)))
theorem jx0 (a0:ql)(v4:ji){s0:Int}{d}(h:bj (A2 a0 v4) s0=I d):X pr (.loop K5) (K3 a0 v4 s0)=I (K4 a0 v4 d):=kl (jx5 a0 v4) (fun d=>by rcases d with d|d<;>(intro hh;cases hh)) h
def A3 (a0:ql)(v4:ji)(s1:Int):Option (Int⊕(Unit⊕Int)):=
 cond (decide (s1<v4.values))
  (jx (zq (a0.values.getD []) s1) fun vi=>
  jx (f59 vi 0 999999999) fun v46=>
  cond v46
   (I (.inr (.inl ())))
   (I (.inl (j9 .i64 (s1+1)))))
  (I (.inr (.inr s1)))
def K6 (a0:ql)(v4:ji)(s1:Int):qh:=⟨[(1,.ah (aE a0),Eh),(3,.ah (.agg [Iv v4.names,Iv v4.values,.bool El]),Eh),(5,Iv s1,Eh)],[]⟩
def K7 (a0:ql)(v4:ji):Unit⊕Int→qo×qh
 | .inl d=>(.ret,⟨[(2,Iv 3,Eh)],[]⟩)
 | .inr d=>(.exit 2,⟨[(1,.ah (aE a0),Eh),(3,.ah (.agg [Iv v4.names,Iv v4.values,.bool El]),Eh),(5,Iv d,Eh),(45,.bool Eh,Eh)],[]⟩)
theorem jx1 (a0:ql)(v4:ji)(s1:Int)(r)(h:A3 a0 v4 s1=I r):y5 pr K8 (K6 a0 v4) (K7 a0 v4) s1 r:=by
 unfold A3 at h
 repeat' first|(replace h:=jy h;obtain⟨d,g,h⟩:=h;with_reducible first|replace g:=Wh g|skip)|(replace h:=j6 h;rcases h with⟨g,h⟩|⟨g,h⟩)|fail
 all_goals (cases h<;>(first|(refine z6 ?_;simp only[go_sem,seval,K8,K6,zn,K7, *]<;>rfl)|(refine yo ?_;simp only[go_sem,seval,K8,K6,zn,K7, *]<;>rfl)))
theorem jvn (a0:ql)(v4:ji){s1:Int}{d}(h:bj (A3 a0 v4) s1=I d):X pr (.loop K8) (K6 a0 v4 s1)=I (K7 a0 v4 d):=kl (jx1 a0 v4) (fun d=>by rcases d with d|d<;>(intro hh;cases hh)) h
def f12 (a0:ql):Option Int:=
 jx (f59 a0.number 1 1000) fun v1=>
 cond v1
  (I 3)
  (jx (f60 a0.kind) fun v4=>
  cond v4.known
   (cond (decide (((a0.names.getD []).length:Int)=v4.names))
    (cond (decide (((a0.values.getD []).length:Int)=v4.values))
     (jx (bj (A2 a0 v4) 0) fun d27=>match d27 with
      | .inl d29=>
       I 8
      | .inr d30=>
       jx (bj (A3 a0 v4) 0) fun d49=>match d49 with
        | .inl d51=>
         I 3
        | .inr d52=>
         cond (decide (a0.text=[]))
          (I 0)
          (I 1))
     (I 2))
    (I 2))
   (I 13))
theorem W12 {a0:ql}{r}(h:f12 a0=I r):jz pr (X pr) 12 [aE a0]=I (Iv r,Eh):=by
 unfold f12 at h
 refine yt OM ?_
 repeat' first|(replace h:=jy h;obtain⟨d,g,h⟩:=h;with_reducible first|replace g:=Wh g|replace g:=W60 g|(replace g:=jx0 a0 _ g;rcases d with d|d<;>dsimp only[K3,K4,ki]at g h)|(replace g:=jvn a0 _ g;rcases d with d|d<;>dsimp only[K6,K7,ki]at g h)|skip)|(replace h:=j6 h;rcases h with⟨g,h⟩|⟨g,h⟩)|fail
 all_goals (cases h<;>(simp only[go_sem,seval,OM, *];exact⟨_,rfl⟩))
end Go.Z
end
