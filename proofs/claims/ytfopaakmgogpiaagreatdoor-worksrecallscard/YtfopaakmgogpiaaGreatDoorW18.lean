/- Chapter 10. -/
import Derived.Test.YtfopaakmgogpiaaGreatDoorVB
set_option linter.unusedVariables false
set_option linter.unusedSimpArgs false
set_option maxRecDepth 100000
set_option maxHeartbeats 4000000
noncomputable section
open Bool renaming false→I,true→En
open Option renaming some→Eh,none→Ek
namespace Go.Z
open Go Go.Abs Go.W
def f83 (a0:List UInt8)(a1:qc):Option Bool:=
 jw (f72 a1 a0) fun v1=>
 Eh (decide (v1<0))
theorem W83 (hp:za){a0 a1 r}(h:f83 a0 a1=Eh r):ze pr (X pr) 83 [.str a0,.ah (aR a1)] hp=Eh (.bool r,I,hp):=by
 unfold f83 at h
 obtain⟨v1,h2,h⟩:=jx h
 have iR:jy pr (X pr) 72 [aR a1,.str a0]=Eh (Iv v1,I):=BU h2
 have hr:decide (v1<0)=r:=Eh.inj h
 subst hr
 rw[zf (show pr.bB 83=Eh KA from rfl) (by simp)]
 simp only[go_sem,seval,KA,iR]<;>rfl
def IW (a0:Option (List (List UInt8)))(ai:qc)(s0:Int):Option (Int⊕(Int⊕Int)):=
 cond (decide (s0<((a0.getD []).length:Int)))
  (jw (zn (a0.getD []) s0) fun dB=>
  jw (f83 dB ai) fun da=>
  cond da
   (Eh (.inr (.inl s0)))
   (Eh (.inl (j6 .i64 (s0+1)))))
  (Eh (.inr (.inr s0)))
def KB (a0:Option (List (List UInt8)))(ai:qc)(hp:za)(s0:Int):qg:=⟨[(0,sl 1 zk a0,I),(1,.fn (.func 83) [] [.ah (aR ai)],I),(7,Lv a0,I),(8,Iv s0,I)],hp⟩
def KC (a0:Option (List (List UInt8)))(ai:qc)(hp:za):Int⊕Int→qi×qg
 | .inl d=>(.ret,⟨[(4,Iv d,I)],hp⟩)
 | .inr d=>(.exit 0,⟨[(0,sl 1 zk a0,I),(1,.fn (.func 83) [] [.ah (aR ai)],I),(7,Lv a0,I),(8,Iv d,I),(9,.bool I,I)],hp⟩)
theorem joa (a0:Option (List (List UInt8)))(ai:qc)(hp:za)(s0:Int)(r)(h:IW a0 ai s0=Eh r):yr pr lZ (KB a0 ai hp) (KC a0 ai hp) s0 r:=by
 unfold IW at h
 repeat' first|(replace h:=jx h;obtain⟨d,g,h⟩:=h;with_reducible first|replace g:=W83 hp g|skip)|(replace h:=jz h;rcases h with⟨g,h⟩|⟨g,h⟩)|fail
 all_goals (cases h<;>(first|(refine zu ?_;simp only[go_sem,seval,lZ,KB,zj,KC, *]<;>rfl)|(refine yl ?_;simp only[go_sem,seval,lZ,KB,zj,KC, *]<;>rfl)))
theorem jl4 (a0:Option (List (List UInt8)))(ai:qc)(hp:za){s0 d}(h:aY (IW a0 ai) s0=Eh d):X pr (.loop lZ) (KB a0 ai hp s0)=Eh (KC a0 ai hp d):=y8 (joa a0 ai hp) (fun d=>by rcases d with d|d<;>(intro hh;cases hh)) h
def Pg (a0:Option (List (List UInt8)))(ai:qc):Option Int:=
 jw (aY (IW a0 ai) 0) fun d19=>match d19 with
  | .inl d21=>
   Eh d21
  | .inr d22=>
   Eh (-1)
theorem j3i (hp:za){a0 ai r}(h:Pg a0 ai=Eh r):ze pr (X pr) 146 [sl 1 zk a0,.fn (.func 83) [] [.ah (aR ai)]] hp=Eh (Iv r,I,hp):=by
 unfold Pg at h
 rw[zf (show pr.bB 146=Eh iB from rfl) (by simp)]
 repeat' first|(replace h:=jx h;obtain⟨d,g,h⟩:=h;with_reducible first|(replace g:=jl4 a0 ai hp g;rcases d with d|d<;>dsimp only[KB,KC,y7]at g h)|skip)|(replace h:=jz h;rcases h with⟨g,h⟩|⟨g,h⟩)|fail
 all_goals (cases h<;>(simp only[go_sem,seval,iB, *]<;>rfl))
def IV (a0:Option (List (List UInt8)))(ai:qc):Option Bool:=
 jw (Pg a0 ai) fun v1=>
 Eh (decide (0≤v1))
theorem zcw {a0 ai r}(h:IV a0 ai=Eh r):jy pr (X pr) 84 [sl 1 zk a0,.fn (.func 83) [] [.ah (aR ai)]]=Eh (.bool r,I):=by
 unfold IV at h
 refine yz tH ?_
 repeat' first|(replace h:=jx h;obtain⟨d,g,h⟩:=h;with_reducible first|replace g:=j3i [] g|skip)|(replace h:=jz h;rcases h with⟨g,h⟩|⟨g,h⟩)|fail
 all_goals (cases h<;>(simp only[go_sem,seval,tH, *];exact⟨_,rfl⟩))
def f86 (a0:List UInt8)(a1:Option (List (List UInt8))):Option Bool:=
 jw (f87 a1 a0) fun v1=>
 Eh v1
theorem W86 (hp:za){a0 a1 r}(h:f86 a0 a1=Eh r):ze pr (X pr) 86 [.str a0,.ah (sl 1 zk a1)] hp=Eh (.bool r,I,hp):=by
 unfold f86 at h
 obtain⟨v1,h2,h⟩:=jx h
 have iR:jy pr (X pr) 87 [sl 1 zk a1,.str a0]=Eh (.bool v1,I):=W87 h2
 have hr:v1=r:=Eh.inj h
 subst hr
 rw[zf (show pr.bB 86=Eh KD from rfl) (by simp)]
 simp only[go_sem,seval,KD,iR]<;>rfl
def I0 (a0:Option (List (List UInt8)))(ai:Option (List (List UInt8)))(s0:Int):Option (Int⊕(Int⊕Int)):=
 cond (decide (s0<((a0.getD []).length:Int)))
  (jw (zn (a0.getD []) s0) fun dB=>
  jw (f86 dB ai) fun da=>
  cond da
   (Eh (.inr (.inl s0)))
   (Eh (.inl (j6 .i64 (s0+1)))))
  (Eh (.inr (.inr s0)))
def KE (a0:Option (List (List UInt8)))(ai:Option (List (List UInt8)))(hp:za)(s0:Int):qg:=⟨[(0,sl 1 zk a0,I),(1,.fn (.func 86) [] [.ah (sl 1 zk ai)],I),(7,Lv a0,I),(8,Iv s0,I)],hp⟩
def KF (a0:Option (List (List UInt8)))(ai:Option (List (List UInt8)))(hp:za):Int⊕Int→qi×qg
 | .inl d=>(.ret,⟨[(4,Iv d,I)],hp⟩)
 | .inr d=>(.exit 0,⟨[(0,sl 1 zk a0,I),(1,.fn (.func 86) [] [.ah (sl 1 zk ai)],I),(7,Lv a0,I),(8,Iv d,I),(9,.bool I,I)],hp⟩)
theorem jo7 (a0:Option (List (List UInt8)))(ai:Option (List (List UInt8)))(hp:za)(s0:Int)(r)(h:I0 a0 ai s0=Eh r):yr pr lZ (KE a0 ai hp) (KF a0 ai hp) s0 r:=by
 unfold I0 at h
 repeat' first|(replace h:=jx h;obtain⟨d,g,h⟩:=h;with_reducible first|replace g:=W86 hp g|skip)|(replace h:=jz h;rcases h with⟨g,h⟩|⟨g,h⟩)|fail
 all_goals (cases h<;>(first|(refine zu ?_;simp only[go_sem,seval,lZ,KE,zj,KF, *]<;>rfl)|(refine yl ?_;simp only[go_sem,seval,lZ,KE,zj,KF, *]<;>rfl)))
theorem jmc (a0:Option (List (List UInt8)))(ai:Option (List (List UInt8)))(hp:za){s0 d}(h:aY (I0 a0 ai) s0=Eh d):X pr (.loop lZ) (KE a0 ai hp s0)=Eh (KF a0 ai hp d):=y8 (jo7 a0 ai hp) (fun d=>by rcases d with d|d<;>(intro hh;cases hh)) h
def Pj (a0:Option (List (List UInt8)))(ai:Option (List (List UInt8))):Option Int:=
 jw (aY (I0 a0 ai) 0) fun d19=>match d19 with
  | .inl d21=>
   Eh d21
  | .inr d22=>
   Eh (-1)
theorem j5x (hp:za){a0 ai r}(h:Pj a0 ai=Eh r):ze pr (X pr) 146 [sl 1 zk a0,.fn (.func 86) [] [.ah (sl 1 zk ai)]] hp=Eh (Iv r,I,hp):=by
 unfold Pj at h
 rw[zf (show pr.bB 146=Eh iB from rfl) (by simp)]
 repeat' first|(replace h:=jx h;obtain⟨d,g,h⟩:=h;with_reducible first|(replace g:=jmc a0 ai hp g;rcases d with d|d<;>dsimp only[KE,KF,y7]at g h)|skip)|(replace h:=jz h;rcases h with⟨g,h⟩|⟨g,h⟩)|fail
 all_goals (cases h<;>(simp only[go_sem,seval,iB, *]<;>rfl))
def IZ (a0:Option (List (List UInt8)))(ai:Option (List (List UInt8))):Option Bool:=
 jw (Pj a0 ai) fun v1=>
 Eh (decide (0≤v1))
theorem za2 (hp:za){a0 ai r}(h:IZ a0 ai=Eh r):ze pr (X pr) 84 [sl 1 zk a0,.fn (.func 86) [] [.ah (sl 1 zk ai)]] hp=Eh (.bool r,I,hp):=by
 unfold IZ at h
 obtain⟨v1,h2,h⟩:=jx h
 have iR:ze pr (X pr) 146 [sl 1 zk a0,.fn (.func 86) [] [.ah (sl 1 zk ai)]] hp=Eh (Iv v1,I,hp):=j5x hp h2
 have hr:decide (0≤v1)=r:=Eh.inj h
 subst hr
 rw[zf (show pr.bB 84=Eh tH from rfl) (by simp)]
 simp only[go_sem,seval,tH,iR]<;>rfl
def f85 (a0:qf)(a1:Option (List (List UInt8))):Option Bool:=
 cond a0.aq
  (jw (f71 (⟨a0.name,a0.product,a0.version,a0.uses,a0.results,a0.partner,En,a0.aj⟩)) fun v2=>
  jw (IZ v2.1 a1) fun v4=>
  Eh v4)
  (Eh I)
theorem W85 (hp:za){a0 a1 r}(h:f85 a0 a1=Eh r):ze pr (X pr) 85 [aU a0,.ah (sl 1 zk a1)] hp=Eh (.bool r,I,hp):=by
 unfold f85 at h
 rw[zf (show pr.bB 85=Eh KG from rfl) (by simp)]
 repeat' first|(replace h:=jx h;obtain⟨d,g,h⟩:=h;with_reducible first|replace g:=W71 g|replace g:=za2 hp g|skip)|(replace h:=jz h;rcases h with⟨g,h⟩|⟨g,h⟩)|fail
 all_goals (cases h<;>(simp only[go_sem,seval,KG, *]<;>rfl))
def I2 (a0:Option (List qf))(ai:Option (List (List UInt8)))(s0:(Option (List qf))×Int×Bool):Option (((Option (List qf))×Int×Bool)⊕(((Option (List qf))×Bool×Int))):=
 cond (decide (s0.2.1<((a0.getD []).length:Int)))
  (jw (zn (a0.getD []) s0.2.1) fun v20=>
  jw (f85 v20 ai) fun eH=>
  cond eH
   (cond s0.2.2
    (jw (bj s0.1 [v20]) fun eg=>
    Eh (.inl (eg,j6 .i64 (s0.2.1+1),En)))
    (cond s0.1.isNone
     (jw (bj s0.1 [v20]) fun fc=>
     Eh (.inl (fc,j6 .i64 (s0.2.1+1),En)))
     (Ek)))
   (Eh (.inl (s0.1,j6 .i64 (s0.2.1+1),s0.2.2))))
  (Eh (.inr (s0.1,s0.2.2,s0.2.1)))
def KH (a0:Option (List qf))(ai:Option (List (List UInt8)))(s0:(Option (List qf))×Int×Bool):qg:=⟨[(1,.fn (.func 85) [] [.ah (sl 1 zk ai)],I),(5,sl 8 aQ s0.1,s0.2.2),(8,sl 8 aQ a0,I),(9,Lv a0,I),(10,Iv s0.2.1,I)],[]⟩
def KI (a0:Option (List qf))(ai:Option (List (List UInt8)))(d:((Option (List qf))×Bool×Int)):qi×qg:=(.exit 0,⟨[(1,.fn (.func 85) [] [.ah (sl 1 zk ai)],I),(5,sl 8 aQ d.1,d.2.1),(8,sl 8 aQ a0,I),(9,Lv a0,I),(10,Iv d.2.2,I),(11,.bool I,I)],[]⟩)
theorem jt3 (a0:Option (List qf))(ai:Option (List (List UInt8)))(s0:(Option (List qf))×Int×Bool)(r)(h:I2 a0 ai s0=Eh r):yr pr xb (KH a0 ai) (KI a0 ai) s0 r:=by
 unfold I2 at h
 repeat' first|(replace h:=jx h;obtain⟨d,g,h⟩:=h;with_reducible first|replace g:=W85 [] g|replace g:=OT g|skip)|(replace h:=jz h;rcases h with⟨g,h⟩|⟨g,h⟩)|fail
 all_goals (cases h<;>(first|(refine zu ?_;simp only[go_sem,seval,xb,KH,zj,KI, *]<;>rfl)|(refine yl ?_;simp only[go_sem,seval,xb,KH,zj,KI, *]<;>rfl)))
theorem jvj (a0:Option (List qf))(ai:Option (List (List UInt8))){s0 d}(h:aY (I2 a0 ai) s0=Eh d):X pr (.loop xb) (KH a0 ai s0)=Eh (KI a0 ai d):=y8 (jt3 a0 ai) (fun d hh=>by cases hh) h
def I1 (a0:Option (List qf))(ai:Option (List (List UInt8))):Option ((Option (List qf))×Bool):=
 jw (aY (I2 a0 ai) (Ek,0,I)) fun d31=>
 Eh (d31.1,d31.2.1)
theorem zh2 {a0 ai r}(h:I1 a0 ai=Eh r):jy pr (X pr) 88 [sl 8 aQ a0,.fn (.func 85) [] [.ah (sl 1 zk ai)]]=Eh (sl 8 aQ r.1,r.2):=by
 unfold I1 at h
 refine eh Cd ?_
 repeat' first|(replace h:=jx h;obtain⟨d,g,h⟩:=h;with_reducible first|(replace g:=jvj a0 ai g;dsimp only[KH,KI,y7]at g h)|skip)|(replace h:=jz h;rcases h with⟨g,h⟩|⟨g,h⟩)|fail
 all_goals (cases h<;>(simp only[go_sem,seval,Cd, *];exact⟨_,rfl⟩))
def I5 (a0:qf)(e0:List (List UInt8)):Option Bool:=
 cond a0.aq
  (Eh (lP e0 a0.name))
  (Eh I)
theorem zc2 {a0 e0 r}(h:I5 a0 e0=Eh r):ze pr (X pr) 90 [aU a0,.ah (.map 0)] [.map (eM e0)]=Eh (.bool r,I,[.map (eM e0)]):=by
 unfold I5 at h
 rcases jz h with⟨h1,h⟩|⟨h1,h⟩
 ·have hr:lP e0 a0.name=r:=Eh.inj h
  subst hr
  rw[zf (show pr.bB 90=Eh Ce from rfl) (by simp)]
  simp only[go_sem,seval,Ce,h1,j3x]<;>rfl
 ·have hr:I=r:=Eh.inj h
  subst hr
  rw[zf (show pr.bB 90=Eh Ce from rfl) (by simp)]
  simp only[go_sem,seval,Ce,h1]<;>rfl
def I4 (a0:Option (List qf))(e0:List (List UInt8))(s0:(Option (List qf))×Int×Bool):Option (((Option (List qf))×Int×Bool)⊕(((Option (List qf))×Bool×Int))):=
 cond (decide (s0.2.1<((a0.getD []).length:Int)))
  (jw (zn (a0.getD []) s0.2.1) fun v20=>
  jw (I5 v20 e0) fun eH=>
  cond eH
   (cond s0.2.2
    (jw (bj s0.1 [v20]) fun eg=>
    Eh (.inl (eg,j6 .i64 (s0.2.1+1),En)))
    (cond s0.1.isNone
     (jw (bj s0.1 [v20]) fun fc=>
     Eh (.inl (fc,j6 .i64 (s0.2.1+1),En)))
     (Ek)))
   (Eh (.inl (s0.1,j6 .i64 (s0.2.1+1),s0.2.2))))
  (Eh (.inr (s0.1,s0.2.2,s0.2.1)))
def KJ (a0:Option (List qf))(e0:List (List UInt8))(s0:(Option (List qf))×Int×Bool):qg:=⟨[(1,.fn (.func 90) [] [.ah (.map 0)],I),(5,sl 8 aQ s0.1,s0.2.2),(8,sl 8 aQ a0,I),(9,Lv a0,I),(10,Iv s0.2.1,I)],[.map (eM e0)]⟩
def KK (a0:Option (List qf))(e0:List (List UInt8))(d:((Option (List qf))×Bool×Int)):qi×qg:=(.exit 0,⟨[(1,.fn (.func 90) [] [.ah (.map 0)],I),(5,sl 8 aQ d.1,d.2.1),(8,sl 8 aQ a0,I),(9,Lv a0,I),(10,Iv d.2.2,I),(11,.bool I,I)],[.map (eM e0)]⟩)
theorem jvf (a0:Option (List qf))(e0:List (List UInt8))(s0:(Option (List qf))×Int×Bool)(r)(h:I4 a0 e0 s0=Eh r):yr pr xb (KJ a0 e0) (KK a0 e0) s0 r:=by
 unfold I4 at h
 repeat' first|(replace h:=jx h;obtain⟨d,g,h⟩:=h;with_reducible first|replace g:=zc2 g|replace g:=OT g|skip)|(replace h:=jz h;rcases h with⟨g,h⟩|⟨g,h⟩)|fail
 all_goals (cases h<;>(first|(refine zu ?_;simp only[go_sem,seval,xb,KJ,zj,KK, *]<;>rfl)|(refine yl ?_;simp only[go_sem,seval,xb,KJ,zj,KK, *]<;>rfl)))
theorem jvs (a0:Option (List qf))(e0:List (List UInt8)){s0 d}(h:aY (I4 a0 e0) s0=Eh d):X pr (.loop xb) (KJ a0 e0 s0)=Eh (KK a0 e0 d):=y8 (jvf a0 e0) (fun d hh=>by cases hh) h
def I3 (a0:Option (List qf))(e0:List (List UInt8)):Option ((Option (List qf))×Bool):=
 jw (aY (I4 a0 e0) (Ek,0,I)) fun d31=>
 Eh (d31.1,d31.2.1)
theorem zcc {a0 e0 r}(h:I3 a0 e0=Eh r):ze pr (X pr) 88 [sl 8 aQ a0,.fn (.func 90) [] [.ah (.map 0)]] [.map (eM e0)]=Eh (sl 8 aQ r.1,r.2,[.map (eM e0)]):=by
 unfold I3 at h
 rw[zf (show pr.bB 88=Eh Cd from rfl) (by simp)]
 repeat' first|(replace h:=jx h;obtain⟨d,g,h⟩:=h;with_reducible first|(replace g:=jvs a0 e0 g;dsimp only[KJ,KK,y7]at g h)|skip)|(replace h:=jz h;rcases h with⟨g,h⟩|⟨g,h⟩)|fail
 all_goals (cases h<;>(simp only[go_sem,seval,Cd, *]<;>rfl))
def yR (v1:qc×Int×Int)(v12:(Option (List qf))×Bool)(s0:Int×(List (List UInt8))):Option ((Int×(List (List UInt8)))⊕((Int×(List (List UInt8))))):=
 cond (decide (s0.1<((v12.1.getD []).length:Int)))
  (jw (zn (v12.1.getD []) s0.1) fun fc=>
  jw (ya s0.2 fc.name) fun v31=>
  jw (ya v31 fc.partner) fun kW=>
  Eh (.inl (j6 .i64 (s0.1+1),kW)))
  (Eh (.inr (s0.1,s0.2)))
def PT (v1:qc×Int×Int)(v12:(Option (List qf))×Bool)(s0:Int×(List (List UInt8))):qg:=⟨[(6,.ah (aR v1.1),I),(12,.ah (.map 0),I),(41,sl 8 aQ v12.1,v12.2),(42,Lv v12.1,I),(43,Iv s0.1,I)],[.map (eM s0.2)]⟩
def X7 (v1:qc×Int×Int)(v12:(Option (List qf))×Bool)(d:(Int×(List (List UInt8)))):qi×qg:=(.exit 0,⟨[(6,.ah (aR v1.1),I),(12,.ah (.map 0),I),(41,sl 8 aQ v12.1,v12.2),(42,Lv v12.1,I),(43,Iv d.1,I),(44,.bool I,I)],[.map (eM d.2)]⟩)
theorem j2o (v1:qc×Int×Int)(v12:(Option (List qf))×Bool)(s0:Int×(List (List UInt8)))(r)(h:yR v1 v12 s0=Eh r):yr pr FA (PT v1 v12) (X7 v1 v12) s0 r:=by
 unfold yR at h
 rcases jz h with⟨wK,h⟩|⟨wK,h⟩
 ·obtain⟨fc,BM,h⟩:=jx h
  obtain⟨v31,XG,h⟩:=jx h
  obtain⟨kW,X8,h⟩:=jx h
  cases h
  exact kN (bF:=⟨[(6,.ah (aR v1.1),I),(12,.ah (.map 0),I),(41,sl 8 aQ v12.1,v12.2),(42,Lv v12.1,I),(43,Iv (j6 .i64 (s0.1+1)),I)],[.map (eM kW)]⟩) (by simp only[go_sem,seval,FA,PT,wK,yx BM,jdv XG,jdv X8]<;>rfl) (lj (Nat.le_refl _))
 ·cases h
  exact zu (by simp only[go_sem,seval,FA,PT,wK,X7]<;>rfl)
theorem j7t (v1:qc×Int×Int)(v12:(Option (List qf))×Bool){s0 d}(h:aY (yR v1 v12) s0=Eh d):X pr (.loop FA) (PT v1 v12 s0)=Eh (X7 v1 v12 d):=y8 (j2o v1 v12) (fun d hh=>by cases hh) h
def f35 (a0:Option (List ql))(a1:Option (List (List UInt8))):Option ((Option (List (List UInt8)))×Int):=
 jw (f9 a0) fun v1=>
 jw (f53 (decide (256<((a1.getD []).length:Int))) 5) fun v3=>
 jw (IV a1 v1.1) fun v5=>
 jw (f53 v5 10) fun v7=>
 jw (f51 (Eh [v1.2.2,v3,v7])) fun v9=>
 cond (decide (v9=0))
  (jw (I1 v1.1.units a1) fun v12=>
  jw (aY (yR v1 v12) (0,[])) fun d35=>
  jw (I3 v1.1.units d35.2) fun v37=>
  jw (f89 v37.1) fun pQ=>
  Eh (pQ.1,0))
  (Eh (Ek,v9))
theorem W35 {a0 a1 r}(h:f35 a0 a1=Eh r):jy pr (X pr) 35 [sl 5 vev a0,sl 1 zk a1]=Eh (.ay [sl 1 zk r.1,Iv r.2],I):=by
 unfold f35 at h
 obtain⟨v1,h2,h⟩:=jx h
 have iR:jy pr (X pr) 9 [sl 5 vev a0]=Eh (.ay [aR v1.1,Iv v1.2.1,Iv v1.2.2],I):=W9 h2
 obtain⟨v3,h4,h⟩:=jx h
 have vG:jy pr (X pr) 53 [.bool (decide (256<((a1.getD []).length:Int))),Iv 5]=Eh (Iv v3,I):=fC h4
 obtain⟨v5,h6,h⟩:=jx h
 have wh6:jy pr (X pr) 84 [sl 1 zk a1,.fn (.func 83) [] [.ah (aR v1.1)]]=Eh (.bool v5,I):=zcw h6
 obtain⟨v7,h8,h⟩:=jx h
 have Fw:jy pr (X pr) 53 [.bool v5,Iv 10]=Eh (Iv v7,I):=fC h8
 obtain⟨v9,jG,h⟩:=jx h
 have KL:jy pr (X pr) 51 [.list I 1 [Iv v1.2.2,Iv v3,Iv v7]]=Eh (Iv v9,I):=lV jG
 rcases jz h with⟨ll,h⟩|⟨ll,h⟩
 ·obtain⟨v12,pL,h⟩:=jx h
  have X9:jy pr (X pr) 88 [sl 8 aQ v1.1.units,.fn (.func 85) [] [.ah (sl 1 zk a1)]]=Eh (sl 8 aQ v12.1,v12.2):=zh2 pL
  obtain⟨d35,B8,h⟩:=jx h
  have Ya:X pr (.loop FA) ⟨[(6,.ah (aR v1.1),I),(12,.ah (.map 0),I),(41,sl 8 aQ v12.1,v12.2),(42,Lv v12.1,I),(43,Iv 0,I)],[.map (eM [])]⟩=Eh (.exit 0,⟨[(6,.ah (aR v1.1),I),(12,.ah (.map 0),I),(41,sl 8 aQ v12.1,v12.2),(42,Lv v12.1,I),(43,Iv d35.1,I),(44,.bool I,I)],[.map (eM d35.2)]⟩):=j7t v1 v12 B8
  obtain⟨v37,Kj,h⟩:=jx h
  have Yb:ze pr (X pr) 88 [sl 8 aQ v1.1.units,.fn (.func 90) [] [.ah (.map 0)]] [.map (eM d35.2)]=Eh (sl 8 aQ v37.1,v37.2,[.map (eM d35.2)]):=zcc Kj
  obtain⟨pQ,Yc,h⟩:=jx h
  have Yd:jy pr (X pr) 89 [sl 8 aQ v37.1,.fn (.func 91) [] []]=Eh (sl 1 zk pQ.1,pQ.2):=W89 Yc
  have hr:(pQ.1,0)=r:=Eh.inj h
  subst hr
  have this:∃hh,ze pr (X pr) 35 [sl 5 vev a0,sl 1 zk a1] []=Eh (.ay [sl 1 zk pQ.1,Iv 0],I,hh):=by
   rw[zf (show pr.bB 35=Eh Cf from rfl) (by simp)]
   simp only[go_sem,seval,Cf,iR,vG,wh6,Fw,KL,ll,juf,X9,Ya,Yb,Yd]
   exact⟨_,rfl⟩
  obtain⟨hh,this⟩:=this
  exact kr rfl this (by first|rfl|simp only[go_sem,seval]) (by first|rfl|simp only[go_sem,seval])
 ·have hr:(Ek,v9)=r:=Eh.inj h
  subst hr
  have this:∃hh,ze pr (X pr) 35 [sl 5 vev a0,sl 1 zk a1] []=Eh (.ay [Nl,Iv v9],I,hh):=by
   rw[zf (show pr.bB 35=Eh Cf from rfl) (by simp)]
   simp only[go_sem,seval,Cf,iR,vG,wh6,Fw,KL,ll]
   exact⟨_,rfl⟩
  obtain⟨hh,this⟩:=this
  exact kr rfl this (by first|rfl|simp only[go_sem,seval]) (by first|rfl|simp only[go_sem,seval])
def f92 (a0:List UInt8)(a1:qc):Option Bool:=
 jw (f93 a1 a0) fun v1=>
 Eh (decide (v1<0))
theorem W92 (hp:za){a0 a1 r}(h:f92 a0 a1=Eh r):ze pr (X pr) 92 [.str a0,.ah (aR a1)] hp=Eh (.bool r,I,hp):=by
 unfold f92 at h
 obtain⟨v1,h2,h⟩:=jx h
 have iR:jy pr (X pr) 93 [aR a1,.str a0]=Eh (Iv v1,I):=vD h2
 have hr:decide (v1<0)=r:=Eh.inj h
 subst hr
 rw[zf (show pr.bB 92=Eh KM from rfl) (by simp)]
 simp only[go_sem,seval,KM,iR]<;>rfl
def IY (a0:Option (List (List UInt8)))(ai:qc)(s0:Int):Option (Int⊕(Int⊕Int)):=
 cond (decide (s0<((a0.getD []).length:Int)))
  (jw (zn (a0.getD []) s0) fun dB=>
  jw (f92 dB ai) fun da=>
  cond da
   (Eh (.inr (.inl s0)))
   (Eh (.inl (j6 .i64 (s0+1)))))
  (Eh (.inr (.inr s0)))
def KN (a0:Option (List (List UInt8)))(ai:qc)(hp:za)(s0:Int):qg:=⟨[(0,sl 1 zk a0,I),(1,.fn (.func 92) [] [.ah (aR ai)],I),(7,Lv a0,I),(8,Iv s0,I)],hp⟩
def KO (a0:Option (List (List UInt8)))(ai:qc)(hp:za):Int⊕Int→qi×qg
 | .inl d=>(.ret,⟨[(4,Iv d,I)],hp⟩)
 | .inr d=>(.exit 0,⟨[(0,sl 1 zk a0,I),(1,.fn (.func 92) [] [.ah (aR ai)],I),(7,Lv a0,I),(8,Iv d,I),(9,.bool I,I)],hp⟩)
theorem jnk (a0:Option (List (List UInt8)))(ai:qc)(hp:za)(s0:Int)(r)(h:IY a0 ai s0=Eh r):yr pr lZ (KN a0 ai hp) (KO a0 ai hp) s0 r:=by
 unfold IY at h
 repeat' first|(replace h:=jx h;obtain⟨d,g,h⟩:=h;with_reducible first|replace g:=W92 hp g|skip)|(replace h:=jz h;rcases h with⟨g,h⟩|⟨g,h⟩)|fail
 all_goals (cases h<;>(first|(refine zu ?_;simp only[go_sem,seval,lZ,KN,zj,KO, *]<;>rfl)|(refine yl ?_;simp only[go_sem,seval,lZ,KN,zj,KO, *]<;>rfl)))
theorem jot (a0:Option (List (List UInt8)))(ai:qc)(hp:za){s0 d}(h:aY (IY a0 ai) s0=Eh d):X pr (.loop lZ) (KN a0 ai hp s0)=Eh (KO a0 ai hp d):=y8 (jnk a0 ai hp) (fun d=>by rcases d with d|d<;>(intro hh;cases hh)) h
def Ph (a0:Option (List (List UInt8)))(ai:qc):Option Int:=
 jw (aY (IY a0 ai) 0) fun d19=>match d19 with
  | .inl d21=>
   Eh d21
  | .inr d22=>
   Eh (-1)
theorem j6r (hp:za){a0 ai r}(h:Ph a0 ai=Eh r):ze pr (X pr) 146 [sl 1 zk a0,.fn (.func 92) [] [.ah (aR ai)]] hp=Eh (Iv r,I,hp):=by
 unfold Ph at h
 rw[zf (show pr.bB 146=Eh iB from rfl) (by simp)]
 repeat' first|(replace h:=jx h;obtain⟨d,g,h⟩:=h;with_reducible first|(replace g:=jot a0 ai hp g;rcases d with d|d<;>dsimp only[KN,KO,y7]at g h)|skip)|(replace h:=jz h;rcases h with⟨g,h⟩|⟨g,h⟩)|fail
 all_goals (cases h<;>(simp only[go_sem,seval,iB, *]<;>rfl))
def IX (a0:Option (List (List UInt8)))(ai:qc):Option Bool:=
 jw (Ph a0 ai) fun v1=>
 Eh (decide (0≤v1))
theorem zed {a0 ai r}(h:IX a0 ai=Eh r):jy pr (X pr) 84 [sl 1 zk a0,.fn (.func 92) [] [.ah (aR ai)]]=Eh (.bool r,I):=by
 unfold IX at h
 refine yz tH ?_
 repeat' first|(replace h:=jx h;obtain⟨d,g,h⟩:=h;with_reducible first|replace g:=j6r [] g|skip)|(replace h:=jz h;rcases h with⟨g,h⟩|⟨g,h⟩)|fail
 all_goals (cases h<;>(simp only[go_sem,seval,tH, *];exact⟨_,rfl⟩))
def f94 (a0:List UInt8)(a1:qc)(a2:qm):Option Bool:=
 jw (f93 a1 a0) fun v1=>
 jw (zn (a1.units.getD []) v1) fun v3=>
 jw (f71 v3) fun v5=>
 jw (f87 v5.1 a2.name) fun v7=>
 Eh (!v7)
theorem W94 (hp:za){a0 a1 a2 r}(h:f94 a0 a1 a2=Eh r):ze pr (X pr) 94 [.str a0,.ah (aR a1),.ah (aL a2)] hp=Eh (.bool r,I,hp):=by
 unfold f94 at h
 rw[zf (show pr.bB 94=Eh KP from rfl) (by simp)]
 repeat' first|(replace h:=jx h;obtain⟨d,g,h⟩:=h;with_reducible first|replace g:=vD g|replace g:=W71 g|replace g:=W87 g|skip)|(replace h:=jz h;rcases h with⟨g,h⟩|⟨g,h⟩)|fail
 all_goals (cases h<;>(simp only[go_sem,seval,KP,zj, *]<;>rfl))
def I9 (a0:Option (List (List UInt8)))(ai:qc)(bf:qm)(s0:Int):Option (Int⊕(Int⊕Int)):=
 cond (decide (s0<((a0.getD []).length:Int)))
  (jw (zn (a0.getD []) s0) fun dB=>
  jw (f94 dB ai bf) fun da=>
  cond da
   (Eh (.inr (.inl s0)))
   (Eh (.inl (j6 .i64 (s0+1)))))
  (Eh (.inr (.inr s0)))
def KQ (a0:Option (List (List UInt8)))(ai:qc)(bf:qm)(hp:za)(s0:Int):qg:=⟨[(0,sl 1 zk a0,I),(1,.fn (.func 94) [] [.ah (aR ai),.ah (aL bf)],I),(7,Lv a0,I),(8,Iv s0,I)],hp⟩
def KR (a0:Option (List (List UInt8)))(ai:qc)(bf:qm)(hp:za):Int⊕Int→qi×qg
 | .inl d=>(.ret,⟨[(4,Iv d,I)],hp⟩)
 | .inr d=>(.exit 0,⟨[(0,sl 1 zk a0,I),(1,.fn (.func 94) [] [.ah (aR ai),.ah (aL bf)],I),(7,Lv a0,I),(8,Iv d,I),(9,.bool I,I)],hp⟩)
theorem jme (a0:Option (List (List UInt8)))(ai:qc)(bf:qm)(hp:za)(s0:Int)(r)(h:I9 a0 ai bf s0=Eh r):yr pr lZ (KQ a0 ai bf hp) (KR a0 ai bf hp) s0 r:=by
 unfold I9 at h
 repeat' first|(replace h:=jx h;obtain⟨d,g,h⟩:=h;with_reducible first|replace g:=W94 hp g|skip)|(replace h:=jz h;rcases h with⟨g,h⟩|⟨g,h⟩)|fail
 all_goals (cases h<;>(first|(refine zu ?_;simp only[go_sem,seval,lZ,KQ,zj,KR, *]<;>rfl)|(refine yl ?_;simp only[go_sem,seval,lZ,KQ,zj,KR, *]<;>rfl)))
theorem joi (a0:Option (List (List UInt8)))(ai:qc)(bf:qm)(hp:za){s0 d}(h:aY (I9 a0 ai bf) s0=Eh d):X pr (.loop lZ) (KQ a0 ai bf hp s0)=Eh (KR a0 ai bf hp d):=y8 (jme a0 ai bf hp) (fun d=>by rcases d with d|d<;>(intro hh;cases hh)) h
def Pm (a0:Option (List (List UInt8)))(ai:qc)(bf:qm):Option Int:=
 jw (aY (I9 a0 ai bf) 0) fun d19=>match d19 with
  | .inl d21=>
   Eh d21
  | .inr d22=>
   Eh (-1)
theorem j10 (hp:za){a0 ai bf r}(h:Pm a0 ai bf=Eh r):ze pr (X pr) 146 [sl 1 zk a0,.fn (.func 94) [] [.ah (aR ai),.ah (aL bf)]] hp=Eh (Iv r,I,hp):=by
 unfold Pm at h
 rw[zf (show pr.bB 146=Eh iB from rfl) (by simp)]
 repeat' first|(replace h:=jx h;obtain⟨d,g,h⟩:=h;with_reducible first|(replace g:=joi a0 ai bf hp g;rcases d with d|d<;>dsimp only[KQ,KR,y7]at g h)|skip)|(replace h:=jz h;rcases h with⟨g,h⟩|⟨g,h⟩)|fail
 all_goals (cases h<;>(simp only[go_sem,seval,iB, *]<;>rfl))
def I8 (a0:Option (List (List UInt8)))(ai:qc)(bf:qm):Option Bool:=
 jw (Pm a0 ai bf) fun v1=>
 Eh (decide (0≤v1))
theorem zix {a0 ai bf r}(h:I8 a0 ai bf=Eh r):jy pr (X pr) 84 [sl 1 zk a0,.fn (.func 94) [] [.ah (aR ai),.ah (aL bf)]]=Eh (.bool r,I):=by
 unfold I8 at h
 refine yz tH ?_
 repeat' first|(replace h:=jx h;obtain⟨d,g,h⟩:=h;with_reducible first|replace g:=j10 [] g|skip)|(replace h:=jz h;rcases h with⟨g,h⟩|⟨g,h⟩)|fail
 all_goals (cases h<;>(simp only[go_sem,seval,tH, *];exact⟨_,rfl⟩))
def BI (a1:Option (List (List UInt8)))(v1:qc×Int×Int)(s0:(Option (List (List UInt8)))×Int×Bool):Option (((Option (List (List UInt8)))×Int×Bool)⊕(((Option (List (List UInt8)))×Bool×Int))):=
 cond (decide (s0.2.1<((v1.1.ar.getD []).length:Int)))
  (jw (zn (v1.1.ar.getD []) s0.2.1) fun kW=>
  jw (I8 a1 v1.1 kW) fun oV=>
  cond oV
   (Eh (.inl (s0.1,j6 .i64 (s0.2.1+1),s0.2.2)))
   (cond s0.2.2
    (jw (bj s0.1 [kW.name]) fun pQ=>
    Eh (.inl (pQ,j6 .i64 (s0.2.1+1),En)))
    (cond s0.1.isNone
     (jw (bj s0.1 [kW.name]) fun JI=>
     Eh (.inl (JI,j6 .i64 (s0.2.1+1),En)))
     (Ek))))
  (Eh (.inr (s0.1,s0.2.2,s0.2.1)))
def KS (a1:Option (List (List UInt8)))(v1:qc×Int×Int)(s0:(Option (List (List UInt8)))×Int×Bool):qg:=⟨[(1,sl 1 zk a1,I),(6,.ah (aR v1.1),I),(11,sl 1 zk s0.1,s0.2.2),(41,sl 5 zw v1.1.ar,I),(42,Lv v1.1.ar,I),(43,Iv s0.2.1,I)],[]⟩
def KT (a1:Option (List (List UInt8)))(v1:qc×Int×Int)(d:((Option (List (List UInt8)))×Bool×Int)):qi×qg:=(.exit 0,⟨[(1,sl 1 zk a1,I),(6,.ah (aR v1.1),I),(11,sl 1 zk d.1,d.2.1),(41,sl 5 zw v1.1.ar,I),(42,Lv v1.1.ar,I),(43,Iv d.2.2,I),(44,.bool I,I)],[]⟩)
theorem j0p (a1:Option (List (List UInt8)))(v1:qc×Int×Int)(s0:(Option (List (List UInt8)))×Int×Bool)(r)(h:BI a1 v1 s0=Eh r):yr pr KU (KS a1 v1) (KT a1 v1) s0 r:=by
 unfold BI at h
 repeat' first|(replace h:=jx h;obtain⟨d,g,h⟩:=h;with_reducible first|replace g:=zix g|replace g:=H0 g|skip)|(replace h:=jz h;rcases h with⟨g,h⟩|⟨g,h⟩)|fail
 all_goals (cases h<;>(first|(refine zu ?_;simp only[go_sem,seval,KU,KS,zj,KT, *]<;>rfl)|(refine yl ?_;simp only[go_sem,seval,KU,KS,zj,KT, *]<;>rfl)))
theorem j4m (a1:Option (List (List UInt8)))(v1:qc×Int×Int){s0 d}(h:aY (BI a1 v1) s0=Eh d):X pr (.loop KU) (KS a1 v1 s0)=Eh (KT a1 v1 d):=y8 (j0p a1 v1) (fun d hh=>by cases hh) h
def f36 (a0:Option (List ql))(a1:Option (List (List UInt8))):Option ((Option (List (List UInt8)))×Int):=
 jw (f9 a0) fun v1=>
 jw (f53 (decide (256<((a1.getD []).length:Int))) 5) fun v3=>
 jw (IX a1 v1.1) fun v5=>
 jw (f53 v5 10) fun v7=>
 jw (f53 (decide (((a1.getD []).length:Int)=0)) 12) fun v9=>
 jw (f51 (Eh [v1.2.2,v3,v7,v9])) fun v11=>
 cond (decide (v11=0))
  (jw (aY (BI a1 v1) (Ek,0,I)) fun d44=>
  Eh (d44.1,0))
  (Eh (Ek,v11))
theorem W36 {a0 a1 r}(h:f36 a0 a1=Eh r):jy pr (X pr) 36 [sl 5 vev a0,sl 1 zk a1]=Eh (.ay [sl 1 zk r.1,Iv r.2],I):=by
 unfold f36 at h
 refine yz KW ?_
 repeat' first|(replace h:=jx h;obtain⟨d,g,h⟩:=h; (with_reducible first|replace g:=W9 g|replace g:=fC g|replace g:=zed g|replace g:=lV g|(replace g:=j4m a1 _ g;dsimp only[KS,KT,y7,hH,List.map,kh,zk,zw,zm,aQ,y9,vev,aV,zx,db]at g h)|skip);try dsimp only[y7,hH,List.map,kh,zk,zw,zm,aQ,y9,vev,aV,zx,db,aE,aR,aU,aL,aP,aD]at g)|(replace h:=jz h;rcases h with⟨g,h⟩|⟨g,h⟩)|fail
 all_goals (cases h<;>(simp only[go_sem,seval,KW, *];exact⟨_,rfl⟩))
end Go.Z
end
