/- Chapter 10. -/
import Derived.Test.YtfopaakmgogpiaaGreatDoorW4
import Derived.Test.YtfopaakmgogpiaaGreatDoorAbsL
import Derived.Test.YtfopaakmgogpiaaGreatDoorCA
set_option linter.unusedVariables false
set_option linter.unusedSimpArgs false
set_option maxRecDepth 100000
set_option maxHeartbeats 4000000
noncomputable section
open Bool renaming false→I,true→En
open Option renaming some→Ef
namespace Go.Z
open Go Go.Abs Go.W
def AY (a0:qr)(a1:qr)(s0:Int):Option (Int⊕(Unit⊕Int)):=
 cond (decide (s0<((a0.ax.getD []).length:Int)))
  (jw (zo (a0.ax.getD []) s0) fun dv=>
  jw (zo (a1.ax.getD []) s0) fun fP=>
  cond (decide (dv.k=fP.k)&&decide (dv.n=fP.n))
   (Ef (.inl (j6 .i64 (s0+1))))
   (Ef (.inr (.inl ()))))
  (Ef (.inr (.inr s0)))
def Kp (a0:qr)(a1:qr)(s0:Int):qg:=⟨[(2,.ah (aD a0),I),(3,.ah (aD a1),I),(5,Iv s0,I)],[]⟩
def Kq (a0:qr)(a1:qr):Unit⊕Int→qo×qg
 | .inl d=>(.ret,⟨[(4,.bool I,I)],[]⟩)
 | .inr d=>(.exit 0,⟨[(2,.ah (aD a0),I),(3,.ah (aD a1),I),(5,Iv d,I),(27,.bool I,I)],[]⟩)
theorem jsf (a0:qr)(a1:qr)(s0:Int)(r)(h:AY a0 a1 s0=Ef r):yp pr Kr (Kp a0 a1) (Kq a0 a1) s0 r:=by
 unfold AY at h
 repeat' first|(replace h:=jx h;obtain⟨d,g,h⟩:=h)|(replace h:=jz h;rcases h with⟨g,h⟩|⟨g,h⟩)|fail
 all_goals (cases h<;>(first|(refine zw ?_;simp only[go_sem,seval,Kr,Kp,zn,Kq, *]<;>rfl)|(refine yj ?_;simp only[go_sem,seval,Kr,Kp,zn,Kq, *]<;>rfl)))
theorem jp6 (a0:qr)(a1:qr){s0:Int}{d}(h:bf (AY a0 a1) s0=Ef d):X pr (.loop Kr) (Kp a0 a1 s0)=Ef (Kq a0 a1 d):=y7 (jsf a0 a1) (fun d=>by rcases d with d|d<;>(intro hh;cases hh)) h
def AZ (a0:qr)(a1:qr)(s1:Int):Option (Int⊕(Unit⊕Int)):=
 cond (decide (s1<((a0.aw.getD []).length:Int)))
  (jw (zo (a0.aw.getD []) s1) fun si=>
  jw (zo (a1.aw.getD []) s1) fun v40=>
  cond (decide (si.k=v40.k)&&decide (si.a=v40.a)&&decide (si.b=v40.b))
   (Ef (.inl (j6 .i64 (s1+1))))
   (Ef (.inr (.inl ()))))
  (Ef (.inr (.inr s1)))
def Ks (a0:qr)(a1:qr)(s1:Int):qg:=⟨[(2,.ah (aD a0),I),(3,.ah (aD a1),I),(6,Iv s1,I)],[]⟩
def Kt (a0:qr)(a1:qr):Unit⊕Int→qo×qg
 | .inl d=>(.ret,⟨[(4,.bool I,I)],[]⟩)
 | .inr d=>(.exit 2,⟨[(2,.ah (aD a0),I),(3,.ah (aD a1),I),(6,Iv d,I),(45,.bool I,I)],[]⟩)
theorem jrz (a0:qr)(a1:qr)(s1:Int)(r)(h:AZ a0 a1 s1=Ef r):yp pr Ku (Ks a0 a1) (Kt a0 a1) s1 r:=by
 unfold AZ at h
 repeat' first|(replace h:=jx h;obtain⟨d,g,h⟩:=h)|(replace h:=jz h;rcases h with⟨g,h⟩|⟨g,h⟩)|fail
 all_goals (cases h<;>(first|(refine zw ?_;simp only[go_sem,seval,Ku,Ks,zn,Kt, *]<;>rfl)|(refine yj ?_;simp only[go_sem,seval,Ku,Ks,zn,Kt, *]<;>rfl)))
theorem jsg (a0:qr)(a1:qr){s1:Int}{d}(h:bf (AZ a0 a1) s1=Ef d):X pr (.loop Ku) (Ks a0 a1 s1)=Ef (Kt a0 a1 d):=y7 (jrz a0 a1) (fun d=>by rcases d with d|d<;>(intro hh;cases hh)) h
def f119 (a0:qr)(a1:qr):Option Bool:=
 cond (decide (((a0.ax.getD []).length:Int)=((a1.ax.getD []).length:Int)))
  (cond (decide (((a0.aw.getD []).length:Int)=((a1.aw.getD []).length:Int)))
   (jw (bf (AY a0 a1) 0) fun d21=>match d21 with
    | .inl d23=>
     Ef I
    | .inr d24=>
     jw (bf (AZ a0 a1) 0) fun d43=>match d43 with
      | .inl d45=>
       Ef I
      | .inr d46=>
       Ef En)
   (Ef I))
  (Ef I)
theorem jta {a0:qr}{a1:qr}{r}(h:f119 a0 a1=Ef r):jy pr (X pr) 119 [aD a0,aD a1]=Ef (.bool r,I):=by
 unfold f119 at h
 refine y6 wF ?_
 repeat' first|(replace h:=jx h;obtain⟨d,g,h⟩:=h;with_reducible first|(replace g:=jp6 a0 a1 g;rcases d with d|d<;>dsimp only[Kp,Kq,y9]at g h)|(replace g:=jsg a0 a1 g;rcases d with d|d<;>dsimp only[Ks,Kt,y9]at g h)|skip)|(replace h:=jz h;rcases h with⟨g,h⟩|⟨g,h⟩)|fail
 all_goals (cases h<;>(simp only[go_sem,seval,wF, *];exact⟨_,rfl⟩))
def A0 (a0:qi)(a1:qi)(s0:Int):Option (Int⊕(Unit⊕Int)):=
 cond (decide (s0<((a0.aH.getD []).length:Int)))
  (jw (zo (a0.aH.getD []) s0) fun iY=>
  jw (zo (a1.aH.getD []) s0) fun pz=>
  jw (f119 iY pz) fun sD=>
  cond sD
   (Ef (.inl (j6 .i64 (s0+1))))
   (Ef (.inr (.inl ()))))
  (Ef (.inr (.inr s0)))
def Kv (a0:qi)(a1:qi)(s0:Int):qg:=⟨[(2,.ah (aP a0),I),(3,.ah (aP a1),I),(5,Iv s0,I)],[]⟩
def Kx (a0:qi)(a1:qi):Unit⊕Int→qo×qg
 | .inl d=>(.ret,⟨[(4,.bool I,I)],[]⟩)
 | .inr d=>(.exit 0,⟨[(2,.ah (aP a0),I),(3,.ah (aP a1),I),(5,Iv d,I),(32,.bool I,I)],[]⟩)
theorem jzu (a0:qi)(a1:qi)(s0:Int)(r)(h:A0 a0 a1 s0=Ef r):yp pr Ky (Kv a0 a1) (Kx a0 a1) s0 r:=by
 unfold A0 at h
 repeat' first|(replace h:=jx h;obtain⟨d,g,h⟩:=h;with_reducible first|replace g:=jta g|skip)|(replace h:=jz h;rcases h with⟨g,h⟩|⟨g,h⟩)|fail
 all_goals (cases h<;>(first|(refine zw ?_;simp only[go_sem,seval,Ky,Kv,zn,Kx, *]<;>rfl)|(refine yj ?_;simp only[go_sem,seval,Ky,Kv,zn,Kx, *]<;>rfl)))
theorem j3d (a0:qi)(a1:qi){s0:Int}{d}(h:bf (A0 a0 a1) s0=Ef d):X pr (.loop Ky) (Kv a0 a1 s0)=Ef (Kx a0 a1 d):=y7 (jzu a0 a1) (fun d=>by rcases d with d|d<;>(intro hh;cases hh)) h
def f61 (a0:qi)(a1:qi):Option Bool:=
 cond (decide (a0.name=a1.name))
  (jw (f119 (⟨a0.dn,a0.dt⟩) (⟨a1.dn,a1.dt⟩)) fun v2=>
  cond v2
   (cond (decide (((a0.aH.getD []).length:Int)=((a1.aH.getD []).length:Int)))
    (jw (bf (A0 a0 a1) 0) fun d30=>match d30 with
     | .inl d32=>
      Ef I
     | .inr d33=>
      Ef En)
    (Ef I))
   (Ef I))
  (Ef I)
theorem W61 {a0:qi}{a1:qi}{r}(h:f61 a0 a1=Ef r):jy pr (X pr) 61 [aP a0,aP a1]=Ef (.bool r,I):=by
 unfold f61 at h
 refine y6 Om ?_
 repeat' first|(replace h:=jx h;obtain⟨d,g,h⟩:=h;with_reducible first|replace g:=jta g|(replace g:=j3d a0 a1 g;rcases d with d|d<;>dsimp only[Kv,Kx,y9]at g h)|skip)|(replace h:=jz h;rcases h with⟨g,h⟩|⟨g,h⟩)|fail
 all_goals (cases h<;>(simp only[go_sem,seval,Om, *];exact⟨_,rfl⟩))
def A1 (a0:qf)(a1:qf)(s0:Int):Option (Int⊕(Unit⊕Int)):=
 cond (decide (s0<((a0.uses.getD []).length:Int)))
  (jw (zo (a0.uses.getD []) s0) fun ej=>
  jw (zo (a1.uses.getD []) s0) fun v24=>
  cond (decide (ej.k=v24.k)&&decide (ej.n=v24.n))
   (Ef (.inl (j6 .i64 (s0+1))))
   (Ef (.inr (.inl ()))))
  (Ef (.inr (.inr s0)))
def Kz (a0:qf)(a1:qf)(s0:Int):qg:=⟨[(2,.ah (aU a0),I),(3,.ah (aU a1),I),(5,Iv s0,I)],[]⟩
def KA (a0:qf)(a1:qf):Unit⊕Int→qo×qg
 | .inl d=>(.ret,⟨[(4,.bool I,I)],[]⟩)
 | .inr d=>(.exit 0,⟨[(2,.ah (aU a0),I),(3,.ah (aU a1),I),(5,Iv d,I),(69,.bool I,I)],[]⟩)
theorem j5g (a0:qf)(a1:qf)(s0:Int)(r)(h:A1 a0 a1 s0=Ef r):yp pr KB (Kz a0 a1) (KA a0 a1) s0 r:=by
 unfold A1 at h
 repeat' first|(replace h:=jx h;obtain⟨d,g,h⟩:=h)|(replace h:=jz h;rcases h with⟨g,h⟩|⟨g,h⟩)|fail
 all_goals (cases h<;>(first|(refine zw ?_;simp only[go_sem,seval,KB,Kz,zn,KA, *]<;>rfl)|(refine yj ?_;simp only[go_sem,seval,KB,Kz,zn,KA, *]<;>rfl)))
theorem jw0 (a0:qf)(a1:qf){s0:Int}{d}(h:bf (A1 a0 a1) s0=Ef d):X pr (.loop KB) (Kz a0 a1 s0)=Ef (KA a0 a1 d):=y7 (j5g a0 a1) (fun d=>by rcases d with d|d<;>(intro hh;cases hh)) h
def A2 (a0:qf)(a1:qf)(s1:Int):Option (Int⊕(Unit⊕Int)):=
 cond (decide (s1<((a0.results.getD []).length:Int)))
  (jw (zo (a0.results.getD []) s1) fun oJ=>
  jw (zo (a1.results.getD []) s1) fun v46=>
  cond (decide (oJ.k=v46.k)&&decide (oJ.a=v46.a)&&decide (oJ.b=v46.b))
   (Ef (.inl (j6 .i64 (s1+1))))
   (Ef (.inr (.inl ()))))
  (Ef (.inr (.inr s1)))
def KC (a0:qf)(a1:qf)(s1:Int):qg:=⟨[(2,.ah (aU a0),I),(3,.ah (aU a1),I),(6,Iv s1,I)],[]⟩
def KD (a0:qf)(a1:qf):Unit⊕Int→qo×qg
 | .inl d=>(.ret,⟨[(4,.bool I,I)],[]⟩)
 | .inr d=>(.exit 2,⟨[(2,.ah (aU a0),I),(3,.ah (aU a1),I),(6,Iv d,I),(87,.bool I,I)],[]⟩)
theorem jzb (a0:qf)(a1:qf)(s1:Int)(r)(h:A2 a0 a1 s1=Ef r):yp pr KE (KC a0 a1) (KD a0 a1) s1 r:=by
 unfold A2 at h
 repeat' first|(replace h:=jx h;obtain⟨d,g,h⟩:=h)|(replace h:=jz h;rcases h with⟨g,h⟩|⟨g,h⟩)|fail
 all_goals (cases h<;>(first|(refine zw ?_;simp only[go_sem,seval,KE,KC,zn,KD, *]<;>rfl)|(refine yj ?_;simp only[go_sem,seval,KE,KC,zn,KD, *]<;>rfl)))
theorem j3z (a0:qf)(a1:qf){s1:Int}{d}(h:bf (A2 a0 a1) s1=Ef d):X pr (.loop KE) (KC a0 a1 s1)=Ef (KD a0 a1 d):=y7 (jzb a0 a1) (fun d=>by rcases d with d|d<;>(intro hh;cases hh)) h
def f62 (a0:qf)(a1:qf):Option Bool:=
 cond (decide (a0.name=a1.name))
  (cond (decide (a0.product=a1.product))
   (cond (decide (a0.version=a1.version))
    (cond (decide (a0.partner=a1.partner))
     (cond (a0.aq == a1.aq)
      (cond (decide (a0.ai=a1.ai))
       (cond (decide (((a0.uses.getD []).length:Int)=((a1.uses.getD []).length:Int)))
        (cond (decide (((a0.results.getD []).length:Int)=((a1.results.getD []).length:Int)))
         (jw (bf (A1 a0 a1) 0) fun d27=>match d27 with
          | .inl d29=>
           Ef I
          | .inr d30=>
           jw (bf (A2 a0 a1) 0) fun d49=>match d49 with
            | .inl d51=>
             Ef I
            | .inr d52=>
             Ef En)
         (Ef I))
        (Ef I))
       (Ef I))
      (Ef I))
     (Ef I))
    (Ef I))
   (Ef I))
  (Ef I)
theorem W62 {a0:qf}{a1:qf}{r}(h:f62 a0 a1=Ef r):jy pr (X pr) 62 [aU a0,aU a1]=Ef (.bool r,I):=by
 unfold f62 at h
 refine y6 Oo ?_
 repeat' first|(replace h:=jx h;obtain⟨d,g,h⟩:=h;with_reducible first|(replace g:=jw0 a0 a1 g;rcases d with d|d<;>dsimp only[Kz,KA,y9]at g h)|(replace g:=j3z a0 a1 g;rcases d with d|d<;>dsimp only[KC,KD,y9]at g h)|skip)|(replace h:=jz h;rcases h with⟨g,h⟩|⟨g,h⟩)|fail
 all_goals (cases h<;>(simp only[go_sem,seval,Oo, *];exact⟨_,rfl⟩))
def A3 (a0:qc)(a1:qc)(s0:Int):Option (Int⊕(Unit⊕Int)):=
 cond (decide (s0<((a0.au.getD []).length:Int)))
  (jw (zo (a0.au.getD []) s0) fun fP=>
  jw (zo (a1.au.getD []) s0) fun v20=>
  cond (decide (fP.name=v20.name)&&decide (fP.kind=v20.kind)&&decide (fP.count=v20.count)&&decide (fP.left=v20.left)&&decide (fP.held=v20.held))
   (Ef (.inl (j6 .i64 (s0+1))))
   (Ef (.inr (.inl ()))))
  (Ef (.inr (.inr s0)))
def KF (a0:qc)(a1:qc)(s0:Int):qg:=⟨[(2,.ah (aR a0),I),(3,.ah (aR a1),I),(5,Iv s0,I)],[]⟩
def KG (a0:qc)(a1:qc):Unit⊕Int→qo×qg
 | .inl d=>(.ret,⟨[(4,.bool I,I)],[]⟩)
 | .inr d=>(.exit 0,⟨[(2,.ah (aR a0),I),(3,.ah (aR a1),I),(5,Iv d,I),(44,.bool I,I)],[]⟩)
theorem j1x (a0:qc)(a1:qc)(s0:Int)(r)(h:A3 a0 a1 s0=Ef r):yp pr KH (KF a0 a1) (KG a0 a1) s0 r:=by
 unfold A3 at h
 repeat' first|(replace h:=jx h;obtain⟨d,g,h⟩:=h)|(replace h:=jz h;rcases h with⟨g,h⟩|⟨g,h⟩)|fail
 all_goals (cases h<;>(first|(refine zw ?_;simp only[go_sem,seval,KH,KF,zn,KG, *]<;>rfl)|(refine yj ?_;simp only[go_sem,seval,KH,KF,zn,KG, *]<;>rfl)))
theorem j6a (a0:qc)(a1:qc){s0:Int}{d}(h:bf (A3 a0 a1) s0=Ef d):X pr (.loop KH) (KF a0 a1 s0)=Ef (KG a0 a1 d):=y7 (j1x a0 a1) (fun d=>by rcases d with d|d<;>(intro hh;cases hh)) h
def A4 (a0:qc)(a1:qc)(s1:Int):Option (Int⊕(Unit⊕Int)):=
 cond (decide (s1<((a0.ae.getD []).length:Int)))
  (jw (zo (a0.ae.getD []) s1) fun oJ=>
  jw (zo (a1.ae.getD []) s1) fun v46=>
  jw (f61 oJ v46) fun H6=>
  cond H6
   (Ef (.inl (j6 .i64 (s1+1))))
   (Ef (.inr (.inl ()))))
  (Ef (.inr (.inr s1)))
def KI (a0:qc)(a1:qc)(s1:Int):qg:=⟨[(2,.ah (aR a0),I),(3,.ah (aR a1),I),(6,Iv s1,I)],[]⟩
def KJ (a0:qc)(a1:qc):Unit⊕Int→qo×qg
 | .inl d=>(.ret,⟨[(4,.bool I,I)],[]⟩)
 | .inr d=>(.exit 2,⟨[(2,.ah (aR a0),I),(3,.ah (aR a1),I),(6,Iv d,I),(62,.bool I,I)],[]⟩)
theorem jzs (a0:qc)(a1:qc)(s1:Int)(r)(h:A4 a0 a1 s1=Ef r):yp pr KK (KI a0 a1) (KJ a0 a1) s1 r:=by
 unfold A4 at h
 repeat' first|(replace h:=jx h;obtain⟨d,g,h⟩:=h;with_reducible first|replace g:=W61 g|skip)|(replace h:=jz h;rcases h with⟨g,h⟩|⟨g,h⟩)|fail
 all_goals (cases h<;>(first|(refine zw ?_;simp only[go_sem,seval,KK,KI,zn,KJ, *]<;>rfl)|(refine yj ?_;simp only[go_sem,seval,KK,KI,zn,KJ, *]<;>rfl)))
theorem j45 (a0:qc)(a1:qc){s1:Int}{d}(h:bf (A4 a0 a1) s1=Ef d):X pr (.loop KK) (KI a0 a1 s1)=Ef (KJ a0 a1 d):=y7 (jzs a0 a1) (fun d=>by rcases d with d|d<;>(intro hh;cases hh)) h
def A5 (a0:qc)(a1:qc)(s2:Int):Option (Int⊕(Unit⊕Int)):=
 cond (decide (s2<((a0.units.getD []).length:Int)))
  (jw (zo (a0.units.getD []) s2) fun v72=>
  jw (zo (a1.units.getD []) s2) fun Wu=>
  jw (f62 v72 Wu) fun v76=>
  cond v76
   (Ef (.inl (j6 .i64 (s2+1))))
   (Ef (.inr (.inl ()))))
  (Ef (.inr (.inr s2)))
def KL (a0:qc)(a1:qc)(s2:Int):qg:=⟨[(2,.ah (aR a0),I),(3,.ah (aR a1),I),(7,Iv s2,I)],[]⟩
def KM (a0:qc)(a1:qc):Unit⊕Int→qo×qg
 | .inl d=>(.ret,⟨[(4,.bool I,I)],[]⟩)
 | .inr d=>(.exit 4,⟨[(2,.ah (aR a0),I),(3,.ah (aR a1),I),(7,Iv d,I),(81,.bool I,I)],[]⟩)
theorem j5w (a0:qc)(a1:qc)(s2:Int)(r)(h:A5 a0 a1 s2=Ef r):yp pr KN (KL a0 a1) (KM a0 a1) s2 r:=by
 unfold A5 at h
 repeat' first|(replace h:=jx h;obtain⟨d,g,h⟩:=h;with_reducible first|replace g:=W62 g|skip)|(replace h:=jz h;rcases h with⟨g,h⟩|⟨g,h⟩)|fail
 all_goals (cases h<;>(first|(refine zw ?_;simp only[go_sem,seval,KN,KL,zn,KM, *]<;>rfl)|(refine yj ?_;simp only[go_sem,seval,KN,KL,zn,KM, *]<;>rfl)))
theorem jzp (a0:qc)(a1:qc){s2:Int}{d}(h:bf (A5 a0 a1) s2=Ef d):X pr (.loop KN) (KL a0 a1 s2)=Ef (KM a0 a1 d):=y7 (j5w a0 a1) (fun d=>by rcases d with d|d<;>(intro hh;cases hh)) h
def f13 (a0:qc)(a1:qc):Option Bool:=
 cond (decide (a0.day=a1.day))
  (cond (decide (((a0.au.getD []).length:Int)=((a1.au.getD []).length:Int)))
   (cond (decide (((a0.ae.getD []).length:Int)=((a1.ae.getD []).length:Int)))
    (cond (decide (((a0.units.getD []).length:Int)=((a1.units.getD []).length:Int)))
     (jw (bf (A3 a0 a1) 0) fun d23=>match d23 with
      | .inl d25=>
       Ef I
      | .inr d26=>
       jw (bf (A4 a0 a1) 0) fun d51=>match d51 with
        | .inl d53=>
         Ef I
        | .inr d54=>
         jw (bf (A5 a0 a1) 0) fun d79=>match d79 with
          | .inl d81=>
           Ef I
          | .inr d82=>
           Ef En)
     (Ef I))
    (Ef I))
   (Ef I))
  (Ef I)
theorem W13 {a0:qc}{a1:qc}{r}(h:f13 a0 a1=Ef r):jy pr (X pr) 13 [aR a0,aR a1]=Ef (.bool r,I):=by
 unfold f13 at h
 refine y6 Oq ?_
 repeat' first|(replace h:=jx h;obtain⟨d,g,h⟩:=h;with_reducible first|(replace g:=j6a a0 a1 g;rcases d with d|d<;>dsimp only[KF,KG,y9]at g h)|(replace g:=j45 a0 a1 g;rcases d with d|d<;>dsimp only[KI,KJ,y9]at g h)|(replace g:=jzp a0 a1 g;rcases d with d|d<;>dsimp only[KL,KM,y9]at g h)|skip)|(replace h:=jz h;rcases h with⟨g,h⟩|⟨g,h⟩)|fail
 all_goals (cases h<;>(simp only[go_sem,seval,Oq, *];exact⟨_,rfl⟩))
def f60 (a0:List UInt8):Option ji:=
 cond (decide (a0=([108,111,116]:List UInt8)))
  (Ef (⟨2,2,En⟩))
  (cond (decide (a0=([112,114,111,100,117,99,116]:List UInt8)))
   (Ef (⟨1,1,En⟩))
   (cond (decide (a0=([105,115,115,117,101]:List UInt8)))
    (Ef (⟨1,1,En⟩))
    (cond (decide (a0=([117,112,100,97,116,101]:List UInt8)))
     (Ef (⟨1,1,En⟩))
     (cond (decide (a0=([104,111,108,100]:List UInt8)))
      (Ef (⟨1,1,En⟩))
      (cond (decide (a0=([102,114,101,101]:List UInt8)))
       (Ef (⟨1,1,En⟩))
       (cond (decide (a0=([115,104,105,112]:List UInt8)))
        (Ef (⟨1,1,En⟩))
        (cond (decide (a0=([99,111,109,112,108,97,105,110]:List UInt8)))
         (Ef (⟨1,1,En⟩))
         (cond (decide (a0=([110,101,101,100]:List UInt8)))
          (Ef (⟨2,2,En⟩))
          (cond (decide (a0=([117,115,101]:List UInt8)))
           (Ef (⟨2,2,En⟩))
           (cond (decide (a0=([109,101,97,115,117,114,101]:List UInt8)))
            (Ef (⟨2,2,En⟩))
            (cond (decide (a0=([116,101,115,116]:List UInt8)))
             (Ef (⟨2,3,En⟩))
             (cond (decide (a0=([98,117,105,108,100]:List UInt8)))
              (Ef (⟨2,1,En⟩))
              (cond (decide (a0=([112,97,105,114]:List UInt8)))
               (Ef (⟨2,1,En⟩))
               (cond (decide (a0=([117,110,100,111]:List UInt8)))
                (Ef (⟨0,0,En⟩))
                (Ef (⟨0,0,I⟩))))))))))))))))
theorem W60 {a0:List UInt8}{r}(h:f60 a0=Ef r):jy pr (X pr) 60 [.str a0]=Ef (.agg [Iv r.names,Iv r.values,.bool r.known],I):=by
 unfold f60 at h
 refine y6 KO ?_
 repeat' first|(replace h:=jz h;rcases h with⟨g,h⟩|⟨g,h⟩)|fail
 all_goals (cases h<;>(simp only[go_sem,seval,KO, *];exact⟨_,rfl⟩))
def AW (a0:ql)(v4:ji)(s0:Int):Option (Int⊕(Unit⊕Int)):=
 cond (decide (s0<v4.names))
  (jw (zo (a0.names.getD []) s0) fun ej=>
  jw (f26 ej) fun v24=>
  cond v24
   (Ef (.inl (j6 .i64 (s0+1))))
   (Ef (.inr (.inl ()))))
  (Ef (.inr (.inr s0)))
def KP (a0:ql)(v4:ji)(s0:Int):qg:=⟨[(1,.ah (aE a0),I),(3,.ah (.agg [Iv v4.names,Iv v4.values,.bool En]),I),(4,Iv s0,I)],[]⟩
def KQ (a0:ql)(v4:ji):Unit⊕Int→qo×qg
 | .inl d=>(.ret,⟨[(2,Iv 8,I)],[]⟩)
 | .inr d=>(.exit 0,⟨[(1,.ah (aE a0),I),(3,.ah (.agg [Iv v4.names,Iv v4.values,.bool En]),I),(4,Iv d,I),(32,.bool I,I)],[]⟩)
theorem j2x (a0:ql)(v4:ji)(s0:Int)(r)(h:AW a0 v4 s0=Ef r):yp pr KR (KP a0 v4) (KQ a0 v4) s0 r:=by
 unfold AW at h
 repeat' first|(replace h:=jx h;obtain⟨d,g,h⟩:=h;with_reducible first|replace g:=W26 g|skip)|(replace h:=jz h;rcases h with⟨g,h⟩|⟨g,h⟩)|fail
 all_goals (cases h<;>(first|(refine zw ?_;simp only[go_sem,seval,KR,KP,zn,KQ, *]<;>rfl)|(refine yj ?_;simp only[go_sem,seval,KR,KP,zn,KQ, *]<;>rfl)))
theorem j6p (a0:ql)(v4:ji){s0:Int}{d}(h:bf (AW a0 v4) s0=Ef d):X pr (.loop KR) (KP a0 v4 s0)=Ef (KQ a0 v4 d):=y7 (j2x a0 v4) (fun d=>by rcases d with d|d<;>(intro hh;cases hh)) h
def AX (a0:ql)(v4:ji)(s1:Int):Option (Int⊕(Unit⊕Int)):=
 cond (decide (s1<v4.values))
  (jw (zo (a0.values.getD []) s1) fun oJ=>
  jw (f59 oJ 0 999999999) fun v46=>
  cond v46
   (Ef (.inr (.inl ())))
   (Ef (.inl (j6 .i64 (s1+1)))))
  (Ef (.inr (.inr s1)))
def KS (a0:ql)(v4:ji)(s1:Int):qg:=⟨[(1,.ah (aE a0),I),(3,.ah (.agg [Iv v4.names,Iv v4.values,.bool En]),I),(5,Iv s1,I)],[]⟩
def KT (a0:ql)(v4:ji):Unit⊕Int→qo×qg
 | .inl d=>(.ret,⟨[(2,Iv 3,I)],[]⟩)
 | .inr d=>(.exit 2,⟨[(1,.ah (aE a0),I),(3,.ah (.agg [Iv v4.names,Iv v4.values,.bool En]),I),(5,Iv d,I),(45,.bool I,I)],[]⟩)
theorem j31 (a0:ql)(v4:ji)(s1:Int)(r)(h:AX a0 v4 s1=Ef r):yp pr KU (KS a0 v4) (KT a0 v4) s1 r:=by
 unfold AX at h
 repeat' first|(replace h:=jx h;obtain⟨d,g,h⟩:=h;with_reducible first|replace g:=Wo g|skip)|(replace h:=jz h;rcases h with⟨g,h⟩|⟨g,h⟩)|fail
 all_goals (cases h<;>(first|(refine zw ?_;simp only[go_sem,seval,KU,KS,zn,KT, *]<;>rfl)|(refine yj ?_;simp only[go_sem,seval,KU,KS,zn,KT, *]<;>rfl)))
theorem jxf (a0:ql)(v4:ji){s1:Int}{d}(h:bf (AX a0 v4) s1=Ef d):X pr (.loop KU) (KS a0 v4 s1)=Ef (KT a0 v4 d):=y7 (j31 a0 v4) (fun d=>by rcases d with d|d<;>(intro hh;cases hh)) h
def f12 (a0:ql):Option Int:=
 jw (f59 a0.number 1 1000) fun v1=>
 cond v1
  (Ef 3)
  (jw (f60 a0.kind) fun v4=>
  cond v4.known
   (cond (decide (((a0.names.getD []).length:Int)=v4.names))
    (cond (decide (((a0.values.getD []).length:Int)=v4.values))
     (jw (bf (AW a0 v4) 0) fun d27=>match d27 with
      | .inl d29=>
       Ef 8
      | .inr d30=>
       jw (bf (AX a0 v4) 0) fun d49=>match d49 with
        | .inl d51=>
         Ef 3
        | .inr d52=>
         cond (decide (a0.text=[]))
          (Ef 0)
          (Ef 1))
     (Ef 2))
    (Ef 2))
   (Ef 13))
theorem WG {a0:ql}{r}(h:f12 a0=Ef r):jy pr (X pr) 12 [aE a0]=Ef (Iv r,I):=by
 unfold f12 at h
 refine y6 Ot ?_
 repeat' first|(replace h:=jx h;obtain⟨d,g,h⟩:=h;with_reducible first|replace g:=Wo g|replace g:=W60 g|(replace g:=j6p a0 _ g;rcases d with d|d<;>dsimp only[KP,KQ,y9]at g h)|(replace g:=jxf a0 _ g;rcases d with d|d<;>dsimp only[KS,KT,y9]at g h)|skip)|(replace h:=jz h;rcases h with⟨g,h⟩|⟨g,h⟩)|fail
 all_goals (cases h<;>(simp only[go_sem,seval,Ot, *];exact⟨_,rfl⟩))
end Go.Z
end
