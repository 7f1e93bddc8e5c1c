/- Chapter 10. -/
import Derived.Test.YtimdocpnkimlfaaGreatDoorW12
set_option linter.unusedVariables false
set_option linter.unusedSimpArgs false
set_option maxRecDepth 100000
set_option maxHeartbeats 4000000
noncomputable section
open Bool renaming false→I
open Option renaming some→En
namespace Go.Z
open Go Go.Abs Go.W
def FF (a0:Option (List (List UInt8)))(a1:List UInt8)(s0:Int):Option (Int⊕(Unit⊕Int)):=
 cond (decide (s0<((a0.getD []).length:Int)))
  (qa (qr (a0.getD []) s0) fun v10=>
  cond (decide (v10=a1))
   (En (.inr (.inl ())))
   (En (.inl (qe .i64 (s0+1)))))
  (En (.inr (.inr s0)))
def Qp (a0:Option (List (List UInt8)))(a1:List UInt8)(s0:Int):bf:=⟨[(0,sl 1 j9 a0,I),(1,.str a1,I),(5,Iv s0,I)],[]⟩
def Qq (a0:Option (List (List UInt8)))(a1:List UInt8):Unit⊕Int→jf×bf
 | .inl d=>(.ret,⟨[(4,.bool true,I)],[]⟩)
 | .inr d=>(.exit 0,⟨[(0,sl 1 j9 a0,I),(1,.str a1,I),(5,Iv d,I),(9,.bool I,I)],[]⟩)
theorem j2o (a0:Option (List (List UInt8)))(a1:List UInt8)(s0:Int)(r)(h:FF a0 a1 s0=En r):jz pr Qr (Qp a0 a1) (Qq a0 a1) s0 r:=by
 unfold FF at h
 repeat' first|(replace h:=qb h;obtain⟨d,g,h⟩:=h)|(replace h:=qd h;rcases h with⟨g,h⟩|⟨g,h⟩)
 all_goals (cases h<;>((first|refine qz ?_|refine jp ?_);simp only[go_sem,seval,Qr,Qp,jg,Qq, *]<;>rfl))
theorem j67 (a0:Option (List (List UInt8)))(a1:List UInt8){s0:Int}{d}(h:bm (FF a0 a1) s0=En d):X pr (.loop Qr) (Qp a0 a1 s0)=En (Qq a0 a1 d):=zj (j2o a0 a1) h
def f22 (a0:Option (List (List UInt8)))(a1:List UInt8):Option Bool:=
 qa (bm (FF a0 a1) 0) fun d13=>match d13 with
  | .inl d15=>
   En true
  | .inr d16=>
   En I
theorem W22 {a0:Option (List (List UInt8))}{a1:List UInt8}{r}(h:f22 a0 a1=En r):qc pr (X pr) 22 [sl 1 j9 a0,.str a1]=En (.bool r,I):=by
 unfold f22 at h
 refine zh Qs ?_
 repeat' first|(replace h:=qb h;obtain⟨d,g,h⟩:=h;with_reducible first|(replace g:=j67 a0 a1 g;rcases d with d|d<;>dsimp only[Qp,Qq,zk]at g h)|skip)|(replace h:=qd h;rcases h with⟨g,h⟩|⟨g,h⟩)
 all_goals (cases h<;>(simp only[go_sem,seval,Qs, *];exact⟨_,rfl⟩))
def f11 (a0:Option (List GEv))(a1:Int):Option Bool:=
 qa (f12 a0 a1) fun v1=>
 cond v1
  (qa (f38 a0) fun v4=>
  En (decide (v4.2.2=0)))
  (En I)
theorem W11 {a0:Option (List GEv)}{a1:Int}{r}(h:f11 a0 a1=En r):qc pr (X pr) 11 [sl 5 vev a0,Iv a1]=En (.bool r,I):=by
 unfold f11 at h
 refine zh KC ?_
 repeat' first|(replace h:=qb h;obtain⟨d,g,h⟩:=h;with_reducible first|replace g:=W12 g|replace g:=W38 g|skip)|(replace h:=qd h;rcases h with⟨g,h⟩|⟨g,h⟩)
 all_goals (cases h<;>(simp only[go_sem,seval,KC, *];exact⟨_,rfl⟩))
def Al (a0:ay)(v175:bL)(s1:Int)(v226:je)(s2:Bool×Int):Option ((Bool×Int)⊕((Bool×Int))):=
 cond (decide (s2.2<((a0.results.getD []).length:Int)))
  (qa (qr (a0.results.getD []) s2.2) fun yB=>
  cond (decide (yB.k=v226.k))
   (cond (decide (yB.a=a0.version))
    (cond (decide (v226.a≤yB.b))
     (En (.inl (decide (yB.b≤v226.b),qe .i64 (s2.2+1))))
     (En (.inl (I,qe .i64 (s2.2+1)))))
    (En (.inl (s2.1,qe .i64 (s2.2+1)))))
   (En (.inl (s2.1,qe .i64 (s2.2+1)))))
  (En (.inr (s2.1,s2.2)))
def Qt (a0:ay)(v175:bL)(s1:Int)(v226:je)(s2:Bool×Int):bf:=⟨[(2,.ah (aU a0),I),(8,.ah (aT v226),I),(9,.bool s2.1,I),(41,sl 3 ja v175.az,I),(42,Lv v175.az,I),(43,Iv s1,I),(48,sl 3 ja a0.results,I),(49,Lv a0.results,I),(50,Iv s2.2,I)],[]⟩
def Qu (a0:ay)(v175:bL)(s1:Int)(v226:je)(d:(Bool×Int)):jf×bf:=(.exit 4,⟨[(2,.ah (aU a0),I),(8,.ah (aT v226),I),(9,.bool d.1,I),(41,sl 3 ja v175.az,I),(42,Lv v175.az,I),(43,Iv s1,I),(48,sl 3 ja a0.results,I),(49,Lv a0.results,I),(50,Iv d.2,I),(51,.bool I,I)],[]⟩)
theorem j00 (a0:ay)(v175:bL)(s1:Int)(v226:je)(s2:Bool×Int)(r)(h:Al a0 v175 s1 v226 s2=En r):jz pr Qv (Qt a0 v175 s1 v226) (Qu a0 v175 s1 v226) s2 r:=by
 unfold Al at h
 repeat' first|(replace h:=qb h;obtain⟨d,g,h⟩:=h)|(replace h:=qd h;rcases h with⟨g,h⟩|⟨g,h⟩)
 all_goals (cases h<;>((first|refine qz ?_|refine jp ?_);simp only[go_sem,seval,Qv,Qt,jg,Qu, *]<;>rfl))
theorem j9g (a0:ay)(v175:bL)(s1:Int)(v226:je){s2:Bool×Int}{d}(h:bm (Al a0 v175 s1 v226) s2=En d):X pr (.loop Qv) (Qt a0 v175 s1 v226 s2)=En (Qu a0 v175 s1 v226 d):=zj (j00 a0 v175 s1 v226) h
def Am (a0:ay)(v175:bL)(s1:Int):Option (Int⊕(Unit⊕Int)):=
 cond (decide (s1<((v175.az.getD []).length:Int)))
  (qa (qr (v175.az.getD []) s1) fun v226=>
  qa (bm (Al a0 v175 s1 v226) (I,0)) fun d246=>
  cond d246.1
   (En (.inl (qe .i64 (s1+1))))
   (En (.inr (.inl ()))))
  (En (.inr (.inr s1)))
def Qw (a0:ay)(v175:bL)(s1:Int):bf:=⟨[(2,.ah (aU a0),I),(41,sl 3 ja v175.az,I),(42,Lv v175.az,I),(43,Iv s1,I)],[]⟩
def Qx (a0:ay)(v175:bL):Unit⊕Int→jf×bf
 | .inl d=>(.ret,⟨[(4,.bool I,I)],[]⟩)
 | .inr d=>(.exit 2,⟨[(2,.ah (aU a0),I),(41,sl 3 ja v175.az,I),(42,Lv v175.az,I),(43,Iv d,I),(44,.bool I,I)],[]⟩)
theorem j09 (a0:ay)(v175:bL)(s1:Int)(r)(h:Am a0 v175 s1=En r):jz pr Qy (Qw a0 v175) (Qx a0 v175) s1 r:=by
 unfold Am at h
 repeat' first|(replace h:=qb h;obtain⟨d,g,h⟩:=h;with_reducible first|(replace g:=j9g a0 _ s1 _ g;dsimp only[Qt,Qu,zk]at g h)|skip)|(replace h:=qd h;rcases h with⟨g,h⟩|⟨g,h⟩)
 all_goals (cases h<;>((first|refine qz ?_|refine jp ?_);simp only[go_sem,seval,Qy,Qw,jg,Qx, *]<;>rfl))
theorem j1n (a0:ay)(v175:bL){s1:Int}{d}(h:bm (Am a0 v175) s1=En d):X pr (.loop Qy) (Qw a0 v175 s1)=En (Qx a0 v175 d):=zj (j09 a0 v175) h
def Ao (a0:ay)(a1:Option (List aS))(s0:Int):Option (Int⊕(Bool⊕Int)):=
 cond (decide (s0<((a1.getD []).length:Int)))
  (qa (qr (a1.getD []) s0) fun Dm=>
  cond (decide (Dm.name=a0.product))
   (cond (decide (((Dm.aM.getD []).length:Int)=a0.version))
    (cond (decide (a0.version<1))
     (En (.inr (.inl I)))
     (qa (qr (Dm.aM.getD []) (qe .i64 (a0.version-1))) fun v175=>
     qa (bm (Am a0 v175) 0) fun d249=>match d249 with
      | .inl d251=>
       En (.inr (.inl I))
      | .inr d252=>
       En (.inr (.inl true))))
    (En (.inr (.inl I))))
   (En (.inl (qe .i64 (s0+1)))))
  (En (.inr (.inr s0)))
def Qz (a0:ay)(a1:Option (List aS))(s0:Int):bf:=⟨[(2,.ah (aU a0),I),(12,sl 4 qv a1,I),(13,Lv a1,I),(14,Iv s0,I)],[]⟩
def QA (a0:ay)(a1:Option (List aS)):Bool⊕Int→jf×bf
 | .inl d=>(.ret,⟨[(4,.bool d,I)],[]⟩)
 | .inr d=>(.exit 0,⟨[(2,.ah (aU a0),I),(12,sl 4 qv a1,I),(13,Lv a1,I),(14,Iv d,I),(15,.bool I,I)],[]⟩)
theorem j1y (a0:ay)(a1:Option (List aS))(s0:Int)(r)(h:Ao a0 a1 s0=En r):jz pr QB (Qz a0 a1) (QA a0 a1) s0 r:=by
 unfold Ao at h
 repeat' first|(replace h:=qb h;obtain⟨d,g,h⟩:=h;with_reducible first|(replace g:=j1n a0 _ g;rcases d with d|d<;>dsimp only[Qw,Qx,zk]at g h)|skip)|(replace h:=qd h;rcases h with⟨g,h⟩|⟨g,h⟩)
 all_goals (cases h<;>((first|refine qz ?_|refine jp ?_);simp only[go_sem,seval,QB,Qz,jg,QA, *]<;>rfl))
theorem j7v (a0:ay)(a1:Option (List aS)){s0:Int}{d}(h:bm (Ao a0 a1) s0=En d):X pr (.loop QB) (Qz a0 a1 s0)=En (QA a0 a1 d):=zj (j1y a0 a1) h
def f26 (a0:ay)(a1:Option (List aS)):Option Bool:=
 qa (bm (Ao a0 a1) 0) fun d253=>match d253 with
  | .inl d255=>
   En d255
  | .inr d256=>
   En I
theorem W26 {a0:ay}{a1:Option (List aS)}{r}(h:f26 a0 a1=En r):qc pr (X pr) 26 [aU a0,sl 4 qv a1]=En (.bool r,I):=by
 unfold f26 at h
 refine zh KD ?_
 repeat' first|(replace h:=qb h;obtain⟨d,g,h⟩:=h;with_reducible first|(replace g:=j7v a0 a1 g;rcases d with d|d<;>dsimp only[Qz,QA,zk]at g h)|skip)|(replace h:=qd h;rcases h with⟨g,h⟩|⟨g,h⟩)
 all_goals (cases h<;>(simp only[go_sem,seval,KD, *];exact⟨_,rfl⟩))
end Go.Z
end
