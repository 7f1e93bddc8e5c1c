/- Chapter 10. -/
import Derived.Test.YtfopaakmgogpiaaGreatDoorW4
set_option maxRecDepth 100000
set_option maxHeartbeats 4000000
noncomputable section
open Bool renaming false→I,true→E1
open Option renaming some→En
namespace Go.Z
open Go Go.Abs Go.W
def AG (a0:qr)(a1:qr)(s0:Int):Option (Int⊕(Unit⊕Int)):=
 cond (decide (s0<((a0.ax.getD []).length:Int)))
  (jx (zp (a0.ax.getD []) s0) fun dm=>
  jx (zp (a1.ax.getD []) s0) fun gq=>
  cond (decide (dm.k=gq.k)&&decide (dm.n=gq.n))
   (En (.inl (j9 .i64 (s0+1))))
   (En (.inr (.inl ()))))
  (En (.inr (.inr s0)))
def Ks (a0:qr)(a1:qr)(s0:Int):qg:=⟨[(2,.ah (aD a0),I),(3,.ah (aD a1),I),(5,Iv s0,I)],[]⟩
def Kt (a0:qr)(a1:qr):Unit⊕Int→qo×qg
 | .inl d=>(.ret,⟨[(4,.bool I,I)],[]⟩)
 | .inr d=>(.exit 0,⟨[(2,.ah (aD a0),I),(3,.ah (aD a1),I),(5,Iv d,I),(27,.bool I,I)],[]⟩)
theorem jtu (a0:qr)(a1:qr)(s0:Int)(r)(h:AG a0 a1 s0=En r):yo pr Ku (Ks a0 a1) (Kt a0 a1) s0 r:=by
 unfold AG at h
 repeat' first|(replace h:=jy h;obtain⟨d,g,h⟩:=h)|(replace h:=j6 h;rcases h with⟨g,h⟩|⟨g,h⟩)|fail
 all_goals (cases h<;>(first|(refine zy ?_;simp only[go_sem,seval,Ku,Ks,zn,Kt, *]<;>rfl)|(refine yh ?_;simp only[go_sem,seval,Ku,Ks,zn,Kt, *]<;>rfl)))
theorem jr4 (a0:qr)(a1:qr){s0:Int}{d}(h:bf (AG a0 a1) s0=En d):X pr (.loop Ku) (Ks a0 a1 s0)=En (Kt a0 a1 d):=yz (jtu a0 a1) (fun d=>by rcases d with d|d<;>(intro hh;cases hh)) h
def AH (a0:qr)(a1:qr)(s1:Int):Option (Int⊕(Unit⊕Int)):=
 cond (decide (s1<((a0.aw.getD []).length:Int)))
  (jx (zp (a0.aw.getD []) s1) fun rX=>
  jx (zp (a1.aw.getD []) s1) fun v40=>
  cond (decide (rX.k=v40.k)&&decide (rX.a=v40.a)&&decide (rX.b=v40.b))
   (En (.inl (j9 .i64 (s1+1))))
   (En (.inr (.inl ()))))
  (En (.inr (.inr s1)))
def Kv (a0:qr)(a1:qr)(s1:Int):qg:=⟨[(2,.ah (aD a0),I),(3,.ah (aD a1),I),(6,Iv s1,I)],[]⟩
def Kx (a0:qr)(a1:qr):Unit⊕Int→qo×qg
 | .inl d=>(.ret,⟨[(4,.bool I,I)],[]⟩)
 | .inr d=>(.exit 2,⟨[(2,.ah (aD a0),I),(3,.ah (aD a1),I),(6,Iv d,I),(45,.bool I,I)],[]⟩)
theorem jrw (a0:qr)(a1:qr)(s1:Int)(r)(h:AH a0 a1 s1=En r):yo pr Ky (Kv a0 a1) (Kx a0 a1) s1 r:=by
 unfold AH at h
 repeat' first|(replace h:=jy h;obtain⟨d,g,h⟩:=h)|(replace h:=j6 h;rcases h with⟨g,h⟩|⟨g,h⟩)|fail
 all_goals (cases h<;>(first|(refine zy ?_;simp only[go_sem,seval,Ky,Kv,zn,Kx, *]<;>rfl)|(refine yh ?_;simp only[go_sem,seval,Ky,Kv,zn,Kx, *]<;>rfl)))
theorem jt1 (a0:qr)(a1:qr){s1:Int}{d}(h:bf (AH a0 a1) s1=En d):X pr (.loop Ky) (Kv a0 a1 s1)=En (Kx a0 a1 d):=yz (jrw a0 a1) (fun d=>by rcases d with d|d<;>(intro hh;cases hh)) h
def f119 (a0:qr)(a1:qr):Option Bool:=
 cond (decide (((a0.ax.getD []).length:Int)=((a1.ax.getD []).length:Int)))
  (cond (decide (((a0.aw.getD []).length:Int)=((a1.aw.getD []).length:Int)))
   (jx (bf (AG a0 a1) 0) fun d21=>match d21 with
    | .inl d23=>
     En I
    | .inr d24=>
     jx (bf (AH a0 a1) 0) fun d43=>match d43 with
      | .inl d45=>
       En I
      | .inr d46=>
       En E1)
   (En I))
  (En I)
theorem jsx {a0:qr}{a1:qr}{r}(h:f119 a0 a1=En r):jz pr (X pr) 119 [aD a0,aD a1]=En (.bool r,I):=by
 unfold f119 at h
 refine y7 wh ?_
 repeat' first|(replace h:=jy h;obtain⟨d,g,h⟩:=h;with_reducible first|(replace g:=jr4 a0 a1 g;rcases d with d|d<;>dsimp only[Ks,Kt,y8]at g h)|(replace g:=jt1 a0 a1 g;rcases d with d|d<;>dsimp only[Kv,Kx,y8]at g h)|skip)|(replace h:=j6 h;rcases h with⟨g,h⟩|⟨g,h⟩)|fail
 all_goals (cases h<;>(simp only[go_sem,seval,wh, *];exact⟨_,rfl⟩))
def AJ (a0:qi)(a1:qi)(s0:Int):Option (Int⊕(Unit⊕Int)):=
 cond (decide (s0<((a0.aH.getD []).length:Int)))
  (jx (zp (a0.aH.getD []) s0) fun kC=>
  jx (zp (a1.aH.getD []) s0) fun uR=>
  jx (f119 kC uR) fun sw=>
  cond sw
   (En (.inl (j9 .i64 (s0+1))))
   (En (.inr (.inl ()))))
  (En (.inr (.inr s0)))
def Kz (a0:qi)(a1:qi)(s0:Int):qg:=⟨[(2,.ah (aP a0),I),(3,.ah (aP a1),I),(5,Iv s0,I)],[]⟩
def KA (a0:qi)(a1:qi):Unit⊕Int→qo×qg
 | .inl d=>(.ret,⟨[(4,.bool I,I)],[]⟩)
 | .inr d=>(.exit 0,⟨[(2,.ah (aP a0),I),(3,.ah (aP a1),I),(5,Iv d,I),(32,.bool I,I)],[]⟩)
theorem j6g (a0:qi)(a1:qi)(s0:Int)(r)(h:AJ a0 a1 s0=En r):yo pr KB (Kz a0 a1) (KA a0 a1) s0 r:=by
 unfold AJ at h
 repeat' first|(replace h:=jy h;obtain⟨d,g,h⟩:=h;with_reducible first|replace g:=jsx g|skip)|(replace h:=j6 h;rcases h with⟨g,h⟩|⟨g,h⟩)|fail
 all_goals (cases h<;>(first|(refine zy ?_;simp only[go_sem,seval,KB,Kz,zn,KA, *]<;>rfl)|(refine yh ?_;simp only[go_sem,seval,KB,Kz,zn,KA, *]<;>rfl)))
theorem j24 (a0:qi)(a1:qi){s0:Int}{d}(h:bf (AJ a0 a1) s0=En d):X pr (.loop KB) (Kz a0 a1 s0)=En (KA a0 a1 d):=yz (j6g a0 a1) (fun d=>by rcases d with d|d<;>(intro hh;cases hh)) h
def f61 (a0:qi)(a1:qi):Option Bool:=
 cond (decide (a0.name=a1.name))
  (jx (f119 (⟨a0.dn,a0.dt⟩) (⟨a1.dn,a1.dt⟩)) fun v2=>
  cond v2
   (cond (decide (((a0.aH.getD []).length:Int)=((a1.aH.getD []).length:Int)))
    (jx (bf (AJ a0 a1) 0) fun d30=>match d30 with
     | .inl d32=>
      En I
     | .inr d33=>
      En E1)
    (En I))
   (En I))
  (En I)
theorem W61 {a0:qi}{a1:qi}{r}(h:f61 a0 a1=En r):jz pr (X pr) 61 [aP a0,aP a1]=En (.bool r,I):=by
 unfold f61 at h
 refine y7 Oo ?_
 repeat' first|(replace h:=jy h;obtain⟨d,g,h⟩:=h;with_reducible first|replace g:=jsx g|(replace g:=j24 a0 a1 g;rcases d with d|d<;>dsimp only[Kz,KA,y8]at g h)|skip)|(replace h:=j6 h;rcases h with⟨g,h⟩|⟨g,h⟩)|fail
 all_goals (cases h<;>(simp only[go_sem,seval,Oo, *];exact⟨_,rfl⟩))
def AK (a0:qe)(a1:qe)(s0:Int):Option (Int⊕(Unit⊕Int)):=
 cond (decide (s0<((a0.uses.getD []).length:Int)))
  (jx (zp (a0.uses.getD []) s0) fun ea=>
  jx (zp (a1.uses.getD []) s0) fun v24=>
  cond (decide (ea.k=v24.k)&&decide (ea.n=v24.n))
   (En (.inl (j9 .i64 (s0+1))))
   (En (.inr (.inl ()))))
  (En (.inr (.inr s0)))
def KC (a0:qe)(a1:qe)(s0:Int):qg:=⟨[(2,.ah (aU a0),I),(3,.ah (aU a1),I),(5,Iv s0,I)],[]⟩
def KD (a0:qe)(a1:qe):Unit⊕Int→qo×qg
 | .inl d=>(.ret,⟨[(4,.bool I,I)],[]⟩)
 | .inr d=>(.exit 0,⟨[(2,.ah (aU a0),I),(3,.ah (aU a1),I),(5,Iv d,I),(69,.bool I,I)],[]⟩)
theorem jzg (a0:qe)(a1:qe)(s0:Int)(r)(h:AK a0 a1 s0=En r):yo pr KE (KC a0 a1) (KD a0 a1) s0 r:=by
 unfold AK at h
 repeat' first|(replace h:=jy h;obtain⟨d,g,h⟩:=h)|(replace h:=j6 h;rcases h with⟨g,h⟩|⟨g,h⟩)|fail
 all_goals (cases h<;>(first|(refine zy ?_;simp only[go_sem,seval,KE,KC,zn,KD, *]<;>rfl)|(refine yh ?_;simp only[go_sem,seval,KE,KC,zn,KD, *]<;>rfl)))
theorem j4n (a0:qe)(a1:qe){s0:Int}{d}(h:bf (AK a0 a1) s0=En d):X pr (.loop KE) (KC a0 a1 s0)=En (KD a0 a1 d):=yz (jzg a0 a1) (fun d=>by rcases d with d|d<;>(intro hh;cases hh)) h
def AL (a0:qe)(a1:qe)(s1:Int):Option (Int⊕(Unit⊕Int)):=
 cond (decide (s1<((a0.results.getD []).length:Int)))
  (jx (zp (a0.results.getD []) s1) fun oz=>
  jx (zp (a1.results.getD []) s1) fun v46=>
  cond (decide (oz.k=v46.k)&&decide (oz.a=v46.a)&&decide (oz.b=v46.b))
   (En (.inl (j9 .i64 (s1+1))))
   (En (.inr (.inl ()))))
  (En (.inr (.inr s1)))
def KF (a0:qe)(a1:qe)(s1:Int):qg:=⟨[(2,.ah (aU a0),I),(3,.ah (aU a1),I),(6,Iv s1,I)],[]⟩
def KG (a0:qe)(a1:qe):Unit⊕Int→qo×qg
 | .inl d=>(.ret,⟨[(4,.bool I,I)],[]⟩)
 | .inr d=>(.exit 2,⟨[(2,.ah (aU a0),I),(3,.ah (aU a1),I),(6,Iv d,I),(87,.bool I,I)],[]⟩)
theorem j42 (a0:qe)(a1:qe)(s1:Int)(r)(h:AL a0 a1 s1=En r):yo pr KH (KF a0 a1) (KG a0 a1) s1 r:=by
 unfold AL at h
 repeat' first|(replace h:=jy h;obtain⟨d,g,h⟩:=h)|(replace h:=j6 h;rcases h with⟨g,h⟩|⟨g,h⟩)|fail
 all_goals (cases h<;>(first|(refine zy ?_;simp only[go_sem,seval,KH,KF,zn,KG, *]<;>rfl)|(refine yh ?_;simp only[go_sem,seval,KH,KF,zn,KG, *]<;>rfl)))
theorem j5z (a0:qe)(a1:qe){s1:Int}{d}(h:bf (AL a0 a1) s1=En d):X pr (.loop KH) (KF a0 a1 s1)=En (KG a0 a1 d):=yz (j42 a0 a1) (fun d=>by rcases d with d|d<;>(intro hh;cases hh)) h
def f62 (a0:qe)(a1:qe):Option Bool:=
 cond (decide (a0.name=a1.name))
  (cond (decide (a0.product=a1.product))
   (cond (decide (a0.version=a1.version))
    (cond (decide (a0.partner=a1.partner))
     (cond (a0.ar == a1.ar)
      (cond (decide (a0.ai=a1.ai))
       (cond (decide (((a0.uses.getD []).length:Int)=((a1.uses.getD []).length:Int)))
        (cond (decide (((a0.results.getD []).length:Int)=((a1.results.getD []).length:Int)))
         (jx (bf (AK a0 a1) 0) fun d27=>match d27 with
          | .inl d29=>
           En I
          | .inr d30=>
           jx (bf (AL a0 a1) 0) fun d49=>match d49 with
            | .inl d51=>
             En I
            | .inr d52=>
             En E1)
         (En I))
        (En I))
       (En I))
      (En I))
     (En I))
    (En I))
   (En I))
  (En I)
theorem W62 {a0:qe}{a1:qe}{r}(h:f62 a0 a1=En r):jz pr (X pr) 62 [aU a0,aU a1]=En (.bool r,I):=by
 unfold f62 at h
 refine y7 Oq ?_
 repeat' first|(replace h:=jy h;obtain⟨d,g,h⟩:=h;with_reducible first|(replace g:=j4n a0 a1 g;rcases d with d|d<;>dsimp only[KC,KD,y8]at g h)|(replace g:=j5z a0 a1 g;rcases d with d|d<;>dsimp only[KF,KG,y8]at g h)|skip)|(replace h:=j6 h;rcases h with⟨g,h⟩|⟨g,h⟩)|fail
 all_goals (cases h<;>(simp only[go_sem,seval,Oq, *];exact⟨_,rfl⟩))
def AO (a0:qc)(a1:qc)(s0:Int):Option (Int⊕(Unit⊕Int)):=
 cond (decide (s0<((a0.au.getD []).length:Int)))
  (jx (zp (a0.au.getD []) s0) fun gq=>
  jx (zp (a1.au.getD []) s0) fun v20=>
  cond (decide (gq.name=v20.name)&&decide (gq.kind=v20.kind)&&decide (gq.count=v20.count)&&decide (gq.left=v20.left)&&decide (gq.held=v20.held))
   (En (.inl (j9 .i64 (s0+1))))
   (En (.inr (.inl ()))))
  (En (.inr (.inr s0)))
def KI (a0:qc)(a1:qc)(s0:Int):qg:=⟨[(2,.ah (aR a0),I),(3,.ah (aR a1),I),(5,Iv s0,I)],[]⟩
def KJ (a0:qc)(a1:qc):Unit⊕Int→qo×qg
 | .inl d=>(.ret,⟨[(4,.bool I,I)],[]⟩)
 | .inr d=>(.exit 0,⟨[(2,.ah (aR a0),I),(3,.ah (aR a1),I),(5,Iv d,I),(44,.bool I,I)],[]⟩)
theorem j4d (a0:qc)(a1:qc)(s0:Int)(r)(h:AO a0 a1 s0=En r):yo pr KK (KI a0 a1) (KJ a0 a1) s0 r:=by
 unfold AO at h
 repeat' first|(replace h:=jy h;obtain⟨d,g,h⟩:=h)|(replace h:=j6 h;rcases h with⟨g,h⟩|⟨g,h⟩)|fail
 all_goals (cases h<;>(first|(refine zy ?_;simp only[go_sem,seval,KK,KI,zn,KJ, *]<;>rfl)|(refine yh ?_;simp only[go_sem,seval,KK,KI,zn,KJ, *]<;>rfl)))
theorem jwd (a0:qc)(a1:qc){s0:Int}{d}(h:bf (AO a0 a1) s0=En d):X pr (.loop KK) (KI a0 a1 s0)=En (KJ a0 a1 d):=yz (j4d a0 a1) (fun d=>by rcases d with d|d<;>(intro hh;cases hh)) h
def AP (a0:qc)(a1:qc)(s1:Int):Option (Int⊕(Unit⊕Int)):=
 cond (decide (s1<((a0.ae.getD []).length:Int)))
  (jx (zp (a0.ae.getD []) s1) fun oz=>
  jx (zp (a1.ae.getD []) s1) fun v46=>
  jx (f61 oz v46) fun HW=>
  cond HW
   (En (.inl (j9 .i64 (s1+1))))
   (En (.inr (.inl ()))))
  (En (.inr (.inr s1)))
def KL (a0:qc)(a1:qc)(s1:Int):qg:=⟨[(2,.ah (aR a0),I),(3,.ah (aR a1),I),(6,Iv s1,I)],[]⟩
def KM (a0:qc)(a1:qc):Unit⊕Int→qo×qg
 | .inl d=>(.ret,⟨[(4,.bool I,I)],[]⟩)
 | .inr d=>(.exit 2,⟨[(2,.ah (aR a0),I),(3,.ah (aR a1),I),(6,Iv d,I),(62,.bool I,I)],[]⟩)
theorem j2u (a0:qc)(a1:qc)(s1:Int)(r)(h:AP a0 a1 s1=En r):yo pr KN (KL a0 a1) (KM a0 a1) s1 r:=by
 unfold AP at h
 repeat' first|(replace h:=jy h;obtain⟨d,g,h⟩:=h;with_reducible first|replace g:=W61 g|skip)|(replace h:=j6 h;rcases h with⟨g,h⟩|⟨g,h⟩)|fail
 all_goals (cases h<;>(first|(refine zy ?_;simp only[go_sem,seval,KN,KL,zn,KM, *]<;>rfl)|(refine yh ?_;simp only[go_sem,seval,KN,KL,zn,KM, *]<;>rfl)))
theorem jyq (a0:qc)(a1:qc){s1:Int}{d}(h:bf (AP a0 a1) s1=En d):X pr (.loop KN) (KL a0 a1 s1)=En (KM a0 a1 d):=yz (j2u a0 a1) (fun d=>by rcases d with d|d<;>(intro hh;cases hh)) h
def AQ (a0:qc)(a1:qc)(s2:Int):Option (Int⊕(Unit⊕Int)):=
 cond (decide (s2<((a0.units.getD []).length:Int)))
  (jx (zp (a0.units.getD []) s2) fun v72=>
  jx (zp (a1.units.getD []) s2) fun Wl=>
  jx (f62 v72 Wl) fun v76=>
  cond v76
   (En (.inl (j9 .i64 (s2+1))))
   (En (.inr (.inl ()))))
  (En (.inr (.inr s2)))
def KO (a0:qc)(a1:qc)(s2:Int):qg:=⟨[(2,.ah (aR a0),I),(3,.ah (aR a1),I),(7,Iv s2,I)],[]⟩
def KP (a0:qc)(a1:qc):Unit⊕Int→qo×qg
 | .inl d=>(.ret,⟨[(4,.bool I,I)],[]⟩)
 | .inr d=>(.exit 4,⟨[(2,.ah (aR a0),I),(3,.ah (aR a1),I),(7,Iv d,I),(81,.bool I,I)],[]⟩)
theorem j0v (a0:qc)(a1:qc)(s2:Int)(r)(h:AQ a0 a1 s2=En r):yo pr KQ (KO a0 a1) (KP a0 a1) s2 r:=by
 unfold AQ at h
 repeat' first|(replace h:=jy h;obtain⟨d,g,h⟩:=h;with_reducible first|replace g:=W62 g|skip)|(replace h:=j6 h;rcases h with⟨g,h⟩|⟨g,h⟩)|fail
 all_goals (cases h<;>(first|(refine zy ?_;simp only[go_sem,seval,KQ,KO,zn,KP, *]<;>rfl)|(refine yh ?_;simp only[go_sem,seval,KQ,KO,zn,KP, *]<;>rfl)))
theorem j15 (a0:qc)(a1:qc){s2:Int}{d}(h:bf (AQ a0 a1) s2=En d):X pr (.loop KQ) (KO a0 a1 s2)=En (KP a0 a1 d):=yz (j0v a0 a1) (fun d=>by rcases d with d|d<;>(intro hh;cases hh)) h
def f13 (a0:qc)(a1:qc):Option Bool:=
 cond (decide (a0.day=a1.day))
  (cond (decide (((a0.au.getD []).length:Int)=((a1.au.getD []).length:Int)))
   (cond (decide (((a0.ae.getD []).length:Int)=((a1.ae.getD []).length:Int)))
    (cond (decide (((a0.units.getD []).length:Int)=((a1.units.getD []).length:Int)))
     (jx (bf (AO a0 a1) 0) fun d23=>match d23 with
      | .inl d25=>
       En I
      | .inr d26=>
       jx (bf (AP a0 a1) 0) fun d51=>match d51 with
        | .inl d53=>
         En I
        | .inr d54=>
         jx (bf (AQ a0 a1) 0) fun d79=>match d79 with
          | .inl d81=>
           En I
          | .inr d82=>
           En E1)
     (En I))
    (En I))
   (En I))
  (En I)
theorem W13 {a0:qc}{a1:qc}{r}(h:f13 a0 a1=En r):jz pr (X pr) 13 [aR a0,aR a1]=En (.bool r,I):=by
 unfold f13 at h
 refine y7 Ot ?_
 repeat' first|(replace h:=jy h;obtain⟨d,g,h⟩:=h;with_reducible first|(replace g:=jwd a0 a1 g;rcases d with d|d<;>dsimp only[KI,KJ,y8]at g h)|(replace g:=jyq a0 a1 g;rcases d with d|d<;>dsimp only[KL,KM,y8]at g h)|(replace g:=j15 a0 a1 g;rcases d with d|d<;>dsimp only[KO,KP,y8]at g h)|skip)|(replace h:=j6 h;rcases h with⟨g,h⟩|⟨g,h⟩)|fail
 all_goals (cases h<;>(simp only[go_sem,seval,Ot, *];exact⟨_,rfl⟩))
def f60 (a0:List UInt8):Option ji:=
 cond (decide (a0=([108,111,116]:List UInt8)))
  (En (⟨2,2,E1⟩))
  (cond (decide (a0=([112,114,111,100,117,99,116]:List UInt8)))
   (En (⟨1,1,E1⟩))
   (cond (decide (a0=([105,115,115,117,101]:List UInt8)))
    (En (⟨1,1,E1⟩))
    (cond (decide (a0=([117,112,100,97,116,101]:List UInt8)))
     (En (⟨1,1,E1⟩))
     (cond (decide (a0=([104,111,108,100]:List UInt8)))
      (En (⟨1,1,E1⟩))
      (cond (decide (a0=([102,114,101,101]:List UInt8)))
       (En (⟨1,1,E1⟩))
       (cond (decide (a0=([115,104,105,112]:List UInt8)))
        (En (⟨1,1,E1⟩))
        (cond (decide (a0=([99,111,109,112,108,97,105,110]:List UInt8)))
         (En (⟨1,1,E1⟩))
         (cond (decide (a0=([110,101,101,100]:List UInt8)))
          (En (⟨2,2,E1⟩))
          (cond (decide (a0=([117,115,101]:List UInt8)))
           (En (⟨2,2,E1⟩))
           (cond (decide (a0=([109,101,97,115,117,114,101]:List UInt8)))
            (En (⟨2,2,E1⟩))
            (cond (decide (a0=([116,101,115,116]:List UInt8)))
             (En (⟨2,3,E1⟩))
             (cond (decide (a0=([98,117,105,108,100]:List UInt8)))
              (En (⟨2,1,E1⟩))
              (cond (decide (a0=([112,97,105,114]:List UInt8)))
               (En (⟨2,1,E1⟩))
               (cond (decide (a0=([117,110,100,111]:List UInt8)))
                (En (⟨0,0,E1⟩))
                (En (⟨0,0,I⟩))))))))))))))))
theorem W60 {a0:List UInt8}{r}(h:f60 a0=En r):jz pr (X pr) 60 [.str a0]=En (.agg [Iv r.names,Iv r.values,.bool r.known],I):=by
 unfold f60 at h
 refine y7 KR ?_
 repeat' first|(replace h:=j6 h;rcases h with⟨g,h⟩|⟨g,h⟩)|fail
 all_goals (cases h<;>(simp only[go_sem,seval,KR, *];exact⟨_,rfl⟩))
def AA (a0:qm)(v4:ji)(s0:Int):Option (Int⊕(Unit⊕Int)):=
 cond (decide (s0<v4.names))
  (jx (zp (a0.names.getD []) s0) fun ea=>
  jx (f26 ea) fun v24=>
  cond v24
   (En (.inl (j9 .i64 (s0+1))))
   (En (.inr (.inl ()))))
  (En (.inr (.inr s0)))
def KS (a0:qm)(v4:ji)(s0:Int):qg:=⟨[(1,.ah (aE a0),I),(3,.ah (.agg [Iv v4.names,Iv v4.values,.bool E1]),I),(4,Iv s0,I)],[]⟩
def KT (a0:qm)(v4:ji):Unit⊕Int→qo×qg
 | .inl d=>(.ret,⟨[(2,Iv 8,I)],[]⟩)
 | .inr d=>(.exit 0,⟨[(1,.ah (aE a0),I),(3,.ah (.agg [Iv v4.names,Iv v4.values,.bool E1]),I),(4,Iv d,I),(32,.bool I,I)],[]⟩)
theorem j2r (a0:qm)(v4:ji)(s0:Int)(r)(h:AA a0 v4 s0=En r):yo pr KU (KS a0 v4) (KT a0 v4) s0 r:=by
 unfold AA at h
 repeat' first|(replace h:=jy h;obtain⟨d,g,h⟩:=h;with_reducible first|replace g:=W26 g|skip)|(replace h:=j6 h;rcases h with⟨g,h⟩|⟨g,h⟩)|fail
 all_goals (cases h<;>(first|(refine zy ?_;simp only[go_sem,seval,KU,KS,zn,KT, *]<;>rfl)|(refine yh ?_;simp only[go_sem,seval,KU,KS,zn,KT, *]<;>rfl)))
theorem j5w (a0:qm)(v4:ji){s0:Int}{d}(h:bf (AA a0 v4) s0=En d):X pr (.loop KU) (KS a0 v4 s0)=En (KT a0 v4 d):=yz (j2r a0 v4) (fun d=>by rcases d with d|d<;>(intro hh;cases hh)) h
def AB (a0:qm)(v4:ji)(s1:Int):Option (Int⊕(Unit⊕Int)):=
 cond (decide (s1<v4.values))
  (jx (zp (a0.values.getD []) s1) fun oz=>
  jx (f59 oz 0 999999999) fun v46=>
  cond v46
   (En (.inr (.inl ())))
   (En (.inl (j9 .i64 (s1+1)))))
  (En (.inr (.inr s1)))
def KW (a0:qm)(v4:ji)(s1:Int):qg:=⟨[(1,.ah (aE a0),I),(3,.ah (.agg [Iv v4.names,Iv v4.values,.bool E1]),I),(5,Iv s1,I)],[]⟩
def KX (a0:qm)(v4:ji):Unit⊕Int→qo×qg
 | .inl d=>(.ret,⟨[(2,Iv 3,I)],[]⟩)
 | .inr d=>(.exit 2,⟨[(1,.ah (aE a0),I),(3,.ah (.agg [Iv v4.names,Iv v4.values,.bool E1]),I),(5,Iv d,I),(45,.bool I,I)],[]⟩)
theorem j3h (a0:qm)(v4:ji)(s1:Int)(r)(h:AB a0 v4 s1=En r):yo pr KY (KW a0 v4) (KX a0 v4) s1 r:=by
 unfold AB at h
 repeat' first|(replace h:=jy h;obtain⟨d,g,h⟩:=h;with_reducible first|replace g:=NT g|skip)|(replace h:=j6 h;rcases h with⟨g,h⟩|⟨g,h⟩)|fail
 all_goals (cases h<;>(first|(refine zy ?_;simp only[go_sem,seval,KY,KW,zn,KX, *]<;>rfl)|(refine yh ?_;simp only[go_sem,seval,KY,KW,zn,KX, *]<;>rfl)))
theorem jwu (a0:qm)(v4:ji){s1:Int}{d}(h:bf (AB a0 v4) s1=En d):X pr (.loop KY) (KW a0 v4 s1)=En (KX a0 v4 d):=yz (j3h a0 v4) (fun d=>by rcases d with d|d<;>(intro hh;cases hh)) h
def f12 (a0:qm):Option Int:=
 jx (f59 a0.number 1 1000) fun v1=>
 cond v1
  (En 3)
  (jx (f60 a0.kind) fun v4=>
  cond v4.known
   (cond (decide (((a0.names.getD []).length:Int)=v4.names))
    (cond (decide (((a0.values.getD []).length:Int)=v4.values))
     (jx (bf (AA a0 v4) 0) fun d27=>match d27 with
      | .inl d29=>
       En 8
      | .inr d30=>
       jx (bf (AB a0 v4) 0) fun d49=>match d49 with
        | .inl d51=>
         En 3
        | .inr d52=>
         cond (decide (a0.text=[]))
          (En 0)
          (En 1))
     (En 2))
    (En 2))
   (En 13))
theorem W12 {a0:qm}{r}(h:f12 a0=En r):jz pr (X pr) 12 [aE a0]=En (Iv r,I):=by
 unfold f12 at h
 refine y7 Ou ?_
 repeat' first|(replace h:=jy h;obtain⟨d,g,h⟩:=h;with_reducible first|replace g:=NT g|replace g:=W60 g|(replace g:=j5w a0 _ g;rcases d with d|d<;>dsimp only[KS,KT,y8]at g h)|(replace g:=jwu a0 _ g;rcases d with d|d<;>dsimp only[KW,KX,y8]at g h)|skip)|(replace h:=j6 h;rcases h with⟨g,h⟩|⟨g,h⟩)|fail
 all_goals (cases h<;>(simp only[go_sem,seval,Ou, *];exact⟨_,rfl⟩))
end Go.Z
end
