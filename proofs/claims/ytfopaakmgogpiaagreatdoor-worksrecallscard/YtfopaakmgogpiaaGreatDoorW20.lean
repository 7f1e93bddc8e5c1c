/- Chapter 10. -/
import Derived.Test.YtfopaakmgogpiaaGreatDoorW14
set_option linter.unusedVariables false
set_option linter.unusedSimpArgs false
set_option maxRecDepth 100000
set_option maxHeartbeats 4000000
noncomputable section
open Bool renaming false→I,true→En
open Option renaming some→Eh,none→Eo
open Nat renaming le_refl→Ek
namespace Go.Z
open Go Go.Abs Go.W
def yT (a0:qf)(a1:Option (List (List UInt8)))(s0:Bool×Int):Option ((Bool×Int)⊕((Bool×Int))):=
 cond (decide (s0.2<((a1.getD []).length:Int)))
  (cond s0.1
   (Eh (.inl (En,j6 .i64 (s0.2+1))))
   (jw (zn (a1.getD []) s0.2) fun dB=>
   jw (f82 a0 dB) fun da=>
   Eh (.inl (da,j6 .i64 (s0.2+1)))))
  (Eh (.inr (s0.1,s0.2)))
def KX (a0:qf)(a1:Option (List (List UInt8)))(s0:Bool×Int):qg:=⟨[(1,sl 1 zk a1,I),(2,.ah (aU a0),I),(5,.bool s0.1,I),(6,Iv s0.2,I)],[]⟩
def KY (a0:qf)(a1:Option (List (List UInt8)))(d:(Bool×Int)):qi×qg:=(.exit 0,⟨[(1,sl 1 zk a1,I),(2,.ah (aU a0),I),(5,.bool d.1,I),(6,Iv d.2,I),(10,.bool I,I)],[]⟩)
theorem j4k (a0:qf)(a1:Option (List (List UInt8)))(s0:Bool×Int)(r)(h:yT a0 a1 s0=Eh r):yr pr KZ (KX a0 a1) (KY a0 a1) s0 r:=by
 unfold yT at h
 repeat' first|(replace h:=jx h;obtain⟨d,g,h⟩:=h;with_reducible first|replace g:=W82 g|skip)|(replace h:=jz h;rcases h with⟨g,h⟩|⟨g,h⟩)|fail
 all_goals (cases h<;>(first|(refine zu ?_;simp only[go_sem,seval,KZ,KX,zj,KY, *]<;>rfl)|(refine yl ?_;simp only[go_sem,seval,KZ,KX,zj,KY, *]<;>rfl)))
theorem j1h (a0:qf)(a1:Option (List (List UInt8))){s0 d}(h:aY (yT a0 a1) s0=Eh d):X pr (.loop KZ) (KX a0 a1 s0)=Eh (KY a0 a1 d):=y8 (j4k a0 a1) (fun d hh=>by cases hh) h
def f95 (a0:qf)(a1:Option (List (List UInt8))):Option Bool:=
 jw (aY (yT a0 a1) (I,0)) fun d18=>
 cond d18.1
  (Eh a0.aq)
  (Eh I)
theorem W95 {a0 a1 r}(h:f95 a0 a1=Eh r):jy pr (X pr) 95 [aU a0,sl 1 zk a1]=Eh (.bool r,I):=by
 unfold f95 at h
 refine yz K0 ?_
 repeat' first|(replace h:=jx h;obtain⟨d,g,h⟩:=h;with_reducible first|(replace g:=j1h a0 a1 g;dsimp only[KX,KY,y7]at g h)|skip)|(replace h:=jz h;rcases h with⟨g,h⟩|⟨g,h⟩)|fail
 all_goals (cases h<;>(simp only[go_sem,seval,K0, *];exact⟨_,rfl⟩))
def yU (a0:qc)(a1:Option (List (List UInt8)))(s0:Bool×Int):Option ((Bool×Int)⊕(Unit⊕(Bool×Int))):=
 cond (decide (s0.2<((a1.getD []).length:Int)))
  (cond s0.1
   (jw (zn (a1.getD []) s0.2) fun v28=>
   jw (f27 a0 v28) fun v30=>
   cond (decide (v30<0))
    (Eh (.inr (.inl ())))
    (Eh (.inl (En,j6 .i64 (s0.2+1)))))
   (jw (zn (a1.getD []) s0.2) fun kW=>
   jw (f28 a0 kW) fun oV=>
   cond (decide (oV<0))
    (Eh (.inr (.inl ())))
    (Eh (.inl (I,j6 .i64 (s0.2+1))))))
  (Eh (.inr (.inr (s0.1,s0.2))))
def K1 (a0:qc)(a1:Option (List (List UInt8)))(s0:Bool×Int):qg:=⟨[(1,sl 1 zk a1,I),(2,.bool s0.1,I),(3,.ah (aR a0),I),(7,Iv s0.2,I)],[]⟩
def K3 (a0:qc)(a1:Option (List (List UInt8))):Unit⊕(Bool×Int)→qi×qg
 | .inl d=>(.ret,⟨[(6,Iv 10,I)],[]⟩)
 | .inr d=>(.exit 0,⟨[(1,sl 1 zk a1,I),(2,.bool d.1,I),(3,.ah (aR a0),I),(7,Iv d.2,I),(14,.bool I,I)],[]⟩)
theorem j6k (a0:qc)(a1:Option (List (List UInt8)))(s0:Bool×Int)(r)(h:yU a0 a1 s0=Eh r):yr pr K4 (K1 a0 a1) (K3 a0 a1) s0 r:=by
 unfold yU at h
 repeat' first|(replace h:=jx h;obtain⟨d,g,h⟩:=h;with_reducible first|replace g:=Ft g|replace g:=Fs g|skip)|(replace h:=jz h;rcases h with⟨g,h⟩|⟨g,h⟩)|fail
 all_goals (cases h<;>(first|(refine zu ?_;simp only[go_sem,seval,K4,K1,zj,K3, *]<;>rfl)|(refine yl ?_;simp only[go_sem,seval,K4,K1,zj,K3, *]<;>rfl)))
theorem j68 (a0:qc)(a1:Option (List (List UInt8))){s0 d}(h:aY (yU a0 a1) s0=Eh d):X pr (.loop K4) (K1 a0 a1 s0)=Eh (K3 a0 a1 d):=y8 (j6k a0 a1) (fun d=>by rcases d with d|d<;>(intro hh;cases hh)) h
def f37 (a0:qc)(a1:Option (List (List UInt8)))(a2:Bool):Option Int:=
 cond (decide (256<((a1.getD []).length:Int)))
  (Eh 5)
  (jw (aY (yU a0 a1) (a2,0)) fun d38=>match d38 with
   | .inl d40=>
    Eh 10
   | .inr d41=>
    Eh 0)
theorem W37 {a0 a1 a2 r}(h:f37 a0 a1 a2=Eh r):jy pr (X pr) 37 [aR a0,sl 1 zk a1,.bool a2]=Eh (Iv r,I):=by
 unfold f37 at h
 refine yz PU ?_
 repeat' first|(replace h:=jx h;obtain⟨d,g,h⟩:=h;with_reducible first|(replace g:=j68 a0 a1 g;rcases d with d|d<;>dsimp only[K1,K3,y7]at g h)|skip)|(replace h:=jz h;rcases h with⟨g,h⟩|⟨g,h⟩)|fail
 all_goals (cases h<;>(simp only[go_sem,seval,PU, *];exact⟨_,rfl⟩))
def BH (a0:qc)(a1:Option (List (List UInt8)))(s0:(Option (List (List UInt8)))×Int×Bool):Option (((Option (List (List UInt8)))×Int×Bool)⊕(((Option (List (List UInt8)))×Bool×Int))):=
 cond (decide (s0.2.1<((a0.units.getD []).length:Int)))
  (jw (zn (a0.units.getD []) s0.2.1) fun iU=>
  jw (f95 iU a1) fun tc=>
  cond (decide (iU.partner=[]))
   (cond tc
    (cond s0.2.2
     (jw (bj s0.1 [iU.name]) fun v59=>
     Eh (.inl (v59,j6 .i64 (s0.2.1+1),En)))
     (cond s0.1.isNone
      (jw (bj s0.1 [iU.name]) fun Ye=>
      Eh (.inl (Ye,j6 .i64 (s0.2.1+1),En)))
      (Eo)))
    (Eh (.inl (s0.1,j6 .i64 (s0.2.1+1),s0.2.2))))
   (cond tc
    (cond s0.2.2
     (jw (bj s0.1 [iU.name]) fun Yf=>
     Eh (.inl (Yf,j6 .i64 (s0.2.1+1),En)))
     (cond s0.1.isNone
      (jw (bj s0.1 [iU.name]) fun zB=>
      Eh (.inl (zB,j6 .i64 (s0.2.1+1),En)))
      (Eo)))
    (cond iU.aq
     (jw (f27 a0 iU.partner) fun v72=>
     jw (zn (a0.units.getD []) v72) fun pP=>
     jw (f95 pP a1) fun v76=>
     cond v76
      (cond s0.2.2
       (jw (bj s0.1 [iU.name]) fun v80=>
       Eh (.inl (v80,j6 .i64 (s0.2.1+1),En)))
       (cond s0.1.isNone
        (jw (bj s0.1 [iU.name]) fun BV=>
        Eh (.inl (BV,j6 .i64 (s0.2.1+1),En)))
        (Eo)))
      (Eh (.inl (s0.1,j6 .i64 (s0.2.1+1),s0.2.2))))
     (Eh (.inl (s0.1,j6 .i64 (s0.2.1+1),s0.2.2))))))
  (Eh (.inr (s0.1,s0.2.2,s0.2.1)))
def oY (a0:qc)(a1:Option (List (List UInt8)))(s0:(Option (List (List UInt8)))×Int×Bool):qg:=⟨[(1,sl 1 zk a1,I),(2,.ah (aR a0),I),(5,sl 1 zk s0.1,s0.2.2),(6,Iv s0.2.1,I)],[]⟩
def PV (a0:qc)(a1:Option (List (List UInt8)))(d:((Option (List (List UInt8)))×Bool×Int)):qi×qg:=(.exit 0,⟨[(1,sl 1 zk a1,I),(2,.ah (aR a0),I),(5,sl 1 zk d.1,d.2.1),(6,Iv d.2.2,I),(13,.bool I,I)],[]⟩)
theorem j5u (a0:qc)(a1:Option (List (List UInt8)))(s0:(Option (List (List UInt8)))×Int×Bool)(r)(h:BH a0 a1 s0=Eh r):yr pr oZ (oY a0 a1) (PV a0 a1) s0 r:=by
 unfold BH at h
 rcases jz h with⟨pe,h⟩|⟨pe,h⟩
 ·obtain⟨iU,tI,h⟩:=jx h
  obtain⟨tc,Yg,h⟩:=jx h
  have iC:jy pr (X pr) 95 [.agg [.str iU.name,.str iU.product,.int .i64 iU.version,sl 2 aV iU.uses,sl 3 zx iU.results,.str iU.partner,.bool iU.aq,.int .i64 iU.aj],sl 1 zk a1]=Eh (.bool tc,I):=W95 Yg
  rcases jz h with⟨pT,h⟩|⟨pT,h⟩
  ·rcases jz h with⟨FB,h⟩|⟨FB,h⟩
   ·rcases jz h with⟨K5,h⟩|⟨K5,h⟩
    ·obtain⟨v59,Yh,h⟩:=jx h
     cases h
     exact kN (bF:=⟨[(1,sl 1 zk a1,I),(2,.ah (.agg [.int .i64 a0.day,sl 5 zw a0.ar,sl 4 zm a0.ae,sl 8 aQ a0.units]),I),(5,sl 1 zk v59,En),(6,.int .i64 (j6 .i64 (s0.2.1+1)),I)],[]⟩) (by simp only[go_sem,seval,oZ,oY,pe,yx tI,iC,pT,FB,K5,H2 Yh]<;>rfl) (lj (Ek _))
    ·rcases jz h with⟨Yi,h⟩|⟨Yi,h⟩
     ·obtain⟨Ye,h63,h⟩:=jx h
      cases h
      exact kN (bF:=⟨[(1,sl 1 zk a1,I),(2,.ah (.agg [.int .i64 a0.day,sl 5 zw a0.ar,sl 4 zm a0.ae,sl 8 aQ a0.units]),I),(5,sl 1 zk Ye,En),(6,.int .i64 (j6 .i64 (s0.2.1+1)),I)],[]⟩) (by simp only[go_sem,seval,oZ,oY,pe,yx tI,iC,pT,FB,K5,Yi,Pp h63 Yi]<;>rfl) (lj (Ek _))
     ·cases h
   ·cases h
    exact kN (bF:=⟨[(1,sl 1 zk a1,I),(2,.ah (.agg [.int .i64 a0.day,sl 5 zw a0.ar,sl 4 zm a0.ae,sl 8 aQ a0.units]),I),(5,sl 1 zk s0.1,s0.2.2),(6,.int .i64 (j6 .i64 (s0.2.1+1)),I)],[]⟩) (by simp only[go_sem,seval,oZ,oY,pe,yx tI,iC,pT,FB]<;>rfl) (lj (Ek _))
  ·rcases jz h with⟨Cg,h⟩|⟨Cg,h⟩
   ·rcases jz h with⟨K6,h⟩|⟨K6,h⟩
    ·obtain⟨Yf,h67,h⟩:=jx h
     cases h
     exact kN (bF:=⟨[(1,sl 1 zk a1,I),(2,.ah (.agg [.int .i64 a0.day,sl 5 zw a0.ar,sl 4 zm a0.ae,sl 8 aQ a0.units]),I),(5,sl 1 zk Yf,En),(6,.int .i64 (j6 .i64 (s0.2.1+1)),I)],[]⟩) (by simp only[go_sem,seval,oZ,oY,pe,yx tI,iC,pT,Cg,K6,H2 h67]<;>rfl) (lj (Ek _))
    ·rcases jz h with⟨Yj,h⟩|⟨Yj,h⟩
     ·obtain⟨zB,h70,h⟩:=jx h
      cases h
      exact kN (bF:=⟨[(1,sl 1 zk a1,I),(2,.ah (.agg [.int .i64 a0.day,sl 5 zw a0.ar,sl 4 zm a0.ae,sl 8 aQ a0.units]),I),(5,sl 1 zk zB,En),(6,.int .i64 (j6 .i64 (s0.2.1+1)),I)],[]⟩) (by simp only[go_sem,seval,oZ,oY,pe,yx tI,iC,pT,Cg,K6,Yj,Pp h70 Yj]<;>rfl) (lj (Ek _))
     ·cases h
   ·rcases jz h with⟨xd,h⟩|⟨xd,h⟩
    ·rw[xd]at iC
     obtain⟨v72,Yk,h⟩:=jx h
     have Ch:jy pr (X pr) 27 [.agg [.int .i64 a0.day,sl 5 zw a0.ar,sl 4 zm a0.ae,sl 8 aQ a0.units],.str iU.partner]=Eh (.int .i64 v72,I):=Ft Yk
     obtain⟨pP,K7,h⟩:=jx h
     obtain⟨v76,Yl,h⟩:=jx h
     have Ci:jy pr (X pr) 95 [.agg [.str pP.name,.str pP.product,.int .i64 pP.version,sl 2 aV pP.uses,sl 3 zx pP.results,.str pP.partner,.bool pP.aq,.int .i64 pP.aj],sl 1 zk a1]=Eh (.bool v76,I):=W95 Yl
     rcases jz h with⟨FC,h⟩|⟨FC,h⟩
     ·rcases jz h with⟨K8,h⟩|⟨K8,h⟩
      ·obtain⟨v80,Ym,h⟩:=jx h
       cases h
       exact kN (bF:=⟨[(1,sl 1 zk a1,I),(2,.ah (.agg [.int .i64 a0.day,sl 5 zw a0.ar,sl 4 zm a0.ae,sl 8 aQ a0.units]),I),(5,sl 1 zk v80,En),(6,.int .i64 (j6 .i64 (s0.2.1+1)),I)],[]⟩) (by simp only[go_sem,seval,oZ,oY,pe,yx tI,iC,pT,Cg,xd,Ch,yx K7,Ci,FC,K8,H2 Ym]<;>rfl) (lj (Ek _))
      ·rcases jz h with⟨K9,h⟩|⟨K9,h⟩
       ·obtain⟨BV,Yn,h⟩:=jx h
        cases h
        exact kN (bF:=⟨[(1,sl 1 zk a1,I),(2,.ah (.agg [.int .i64 a0.day,sl 5 zw a0.ar,sl 4 zm a0.ae,sl 8 aQ a0.units]),I),(5,sl 1 zk BV,En),(6,.int .i64 (j6 .i64 (s0.2.1+1)),I)],[]⟩) (by simp only[go_sem,seval,oZ,oY,pe,yx tI,iC,pT,Cg,xd,Ch,yx K7,Ci,FC,K8,K9,Pp Yn K9]<;>rfl) (lj (Ek _))
       ·cases h
     ·cases h
      exact kN (bF:=⟨[(1,sl 1 zk a1,I),(2,.ah (.agg [.int .i64 a0.day,sl 5 zw a0.ar,sl 4 zm a0.ae,sl 8 aQ a0.units]),I),(5,sl 1 zk s0.1,s0.2.2),(6,.int .i64 (j6 .i64 (s0.2.1+1)),I)],[]⟩) (by simp only[go_sem,seval,oZ,oY,pe,yx tI,iC,pT,Cg,xd,Ch,yx K7,Ci,FC]<;>rfl) (lj (Ek _))
    ·rw[xd]at iC
     cases h
     exact kN (bF:=⟨[(1,sl 1 zk a1,I),(2,.ah (.agg [.int .i64 a0.day,sl 5 zw a0.ar,sl 4 zm a0.ae,sl 8 aQ a0.units]),I),(5,sl 1 zk s0.1,s0.2.2),(6,.int .i64 (j6 .i64 (s0.2.1+1)),I)],[]⟩) (by simp only[go_sem,seval,oZ,oY,pe,yx tI,iC,pT,Cg,xd]<;>rfl) (lj (Ek _))
 ·cases h
  exact zu (by simp only[go_sem,seval,oZ,oY,pe,PV]<;>rfl)
theorem j2p (a0:qc)(a1:Option (List (List UInt8))){s0 d}(h:aY (BH a0 a1) s0=Eh d):X pr (.loop oZ) (oY a0 a1 s0)=Eh (PV a0 a1 d):=y8 (j5u a0 a1) (fun d hh=>by cases hh) h
def f38 (a0:qc)(a1:Option (List (List UInt8))):Option ((Option (List (List UInt8)))×Bool):=
 jw (aY (BH a0 a1) (Eo,0,I)) fun d85=>
 Eh (d85.1,d85.2.1)
theorem W38 {a0 a1 r}(h:f38 a0 a1=Eh r):jy pr (X pr) 38 [aR a0,sl 1 zk a1]=Eh (sl 1 zk r.1,r.2):=by
 unfold f38 at h
 refine eh PW ?_
 repeat' first|(replace h:=jx h;obtain⟨d,g,h⟩:=h;with_reducible first|(replace g:=j2p a0 a1 g;dsimp only[oY,PV,y7]at g h)|skip)|(replace h:=jz h;rcases h with⟨g,h⟩|⟨g,h⟩)|fail
 all_goals (cases h<;>(simp only[go_sem,seval,PW, *];exact⟨_,rfl⟩))
def yV (a0:qc)(a1:Option (List (List UInt8)))(s0:(Option (List (List UInt8)))×Int×Bool)(s1:Bool×Int):Option ((Bool×Int)⊕((Bool×Int))):=
 cond (decide (s1.2<((a1.getD []).length:Int)))
  (cond s1.1
   (jw (zn (a1.getD []) s1.2) fun v127=>
   jw (f27 a0 v127) fun Cj=>
   jw (zn (a0.units.getD []) Cj) fun v131=>
   jw (zn (a0.ar.getD []) s0.2.1) fun Yo=>
   jw (f82 v131 Yo.name) fun Ck=>
   Eh (.inl (Ck,j6 .i64 (s1.2+1))))
   (Eh (.inl (I,j6 .i64 (s1.2+1)))))
  (Eh (.inr (s1.1,s1.2)))
def PX (a0:qc)(a1:Option (List (List UInt8)))(s0:(Option (List (List UInt8)))×Int×Bool)(s1:Bool×Int):qg:=⟨[(1,sl 1 zk a1,I),(2,.ah (aR a0),I),(5,sl 1 zk s0.1,s0.2.2),(6,Iv s0.2.1,I),(7,.bool s1.1,I),(8,Iv s1.2,I)],[]⟩
def PY (a0:qc)(a1:Option (List (List UInt8)))(s0:(Option (List (List UInt8)))×Int×Bool)(d:(Bool×Int)):qi×qg:=(.exit 2,⟨[(1,sl 1 zk a1,I),(2,.ah (aR a0),I),(5,sl 1 zk s0.1,s0.2.2),(6,Iv s0.2.1,I),(7,.bool d.1,I),(8,Iv d.2,I),(19,.bool I,I)],[]⟩)
theorem j7h (a0:qc)(a1:Option (List (List UInt8)))(s0:(Option (List (List UInt8)))×Int×Bool)(s1:Bool×Int)(r)(h:yV a0 a1 s0 s1=Eh r):yr pr FD (PX a0 a1 s0) (PY a0 a1 s0) s1 r:=by
 unfold yV at h
 repeat' first|(replace h:=jx h;obtain⟨d,g,h⟩:=h;with_reducible first|replace g:=Ft g|replace g:=W82 g|skip)|(replace h:=jz h;rcases h with⟨g,h⟩|⟨g,h⟩)|fail
 all_goals (cases h<;>(first|(refine zu ?_;simp only[go_sem,seval,FD,PX,zj,PY, *]<;>rfl)|(refine yl ?_;simp only[go_sem,seval,FD,PX,zj,PY, *]<;>rfl)))
theorem j6j (a0:qc)(a1:Option (List (List UInt8)))(s0:(Option (List (List UInt8)))×Int×Bool){s1 d}(h:aY (yV a0 a1 s0) s1=Eh d):X pr (.loop FD) (PX a0 a1 s0 s1)=Eh (PY a0 a1 s0 d):=y8 (j7h a0 a1 s0) (fun d hh=>by cases hh) h
def BJ (a0:qc)(a1:Option (List (List UInt8)))(s0:(Option (List (List UInt8)))×Int×Bool):Option (((Option (List (List UInt8)))×Int×Bool)⊕(((Option (List (List UInt8)))×Bool×Int))):=
 cond (decide (s0.2.1<((a0.ar.getD []).length:Int)))
  (jw (aY (yV a0 a1 s0) (En,0)) fun d137=>
  cond d137.1
   (jw (zn (a0.ar.getD []) s0.2.1) fun Cl=>
   cond s0.2.2
    (jw (bj s0.1 [Cl.name]) fun v143=>
    Eh (.inl (v143,j6 .i64 (s0.2.1+1),En)))
    (cond s0.1.isNone
     (jw (bj s0.1 [Cl.name]) fun v146=>
     Eh (.inl (v146,j6 .i64 (s0.2.1+1),En)))
     (Eo)))
   (Eh (.inl (s0.1,j6 .i64 (s0.2.1+1),s0.2.2))))
  (Eh (.inr (s0.1,s0.2.2,s0.2.1)))
def Cm (a0:qc)(a1:Option (List (List UInt8)))(s0:(Option (List (List UInt8)))×Int×Bool):qg:=⟨[(1,sl 1 zk a1,I),(2,.ah (aR a0),I),(5,sl 1 zk s0.1,s0.2.2),(6,Iv s0.2.1,I)],[]⟩
def PZ (a0:qc)(a1:Option (List (List UInt8)))(d:((Option (List (List UInt8)))×Bool×Int)):qi×qg:=(.exit 0,⟨[(1,sl 1 zk a1,I),(2,.ah (aR a0),I),(5,sl 1 zk d.1,d.2.1),(6,Iv d.2.2,I),(13,.bool I,I)],[]⟩)
theorem j0i (a0:qc)(a1:Option (List (List UInt8)))(s0:(Option (List (List UInt8)))×Int×Bool)(r)(h:BJ a0 a1 s0=Eh r):yr pr Cn (Cm a0 a1) (PZ a0 a1) s0 r:=by
 unfold BJ at h
 rcases jz h with⟨nC,h⟩|⟨nC,h⟩
 ·obtain⟨d137,Co,h⟩:=jx h
  have iD:X pr (.loop FD) ⟨[(1,sl 1 zk a1,I),(2,.ah (.agg [.int .i64 a0.day,sl 5 zw a0.ar,sl 4 zm a0.ae,sl 8 aQ a0.units]),I),(5,sl 1 zk s0.1,s0.2.2),(6,.int .i64 s0.2.1,I),(7,.bool En,I),(8,.int .i64 0,I)],[]⟩=Eh (.exit 2,⟨[(1,sl 1 zk a1,I),(2,.ah (.agg [.int .i64 a0.day,sl 5 zw a0.ar,sl 4 zm a0.ae,sl 8 aQ a0.units]),I),(5,sl 1 zk s0.1,s0.2.2),(6,.int .i64 s0.2.1,I),(7,.bool d137.1,I),(8,.int .i64 d137.2,I),(19,.bool I,I)],[]⟩):=j6j a0 a1 s0 Co
  rcases jz h with⟨l0,h⟩|⟨l0,h⟩
  ·rw[l0]at iD
   obtain⟨Cl,xe,h⟩:=jx h
   rcases jz h with⟨nD,h⟩|⟨nD,h⟩
   ·rw[nD]at iD
    obtain⟨v143,Cp,h⟩:=jx h
    cases h
    exact kN (bF:=⟨[(1,sl 1 zk a1,I),(2,.ah (.agg [.int .i64 a0.day,sl 5 zw a0.ar,sl 4 zm a0.ae,sl 8 aQ a0.units]),I),(5,sl 1 zk v143,En),(6,.int .i64 (j6 .i64 (s0.2.1+1)),I)],[]⟩) (by simp only[go_sem,seval,Cn,Cm,nC,iD,l0,yx xe,nD,H2 Cp]<;>rfl) (lj (Ek _))
   ·rw[nD]at iD
    rcases jz h with⟨tJ,h⟩|⟨tJ,h⟩
    ·obtain⟨v146,Cq,h⟩:=jx h
     cases h
     exact kN (bF:=⟨[(1,sl 1 zk a1,I),(2,.ah (.agg [.int .i64 a0.day,sl 5 zw a0.ar,sl 4 zm a0.ae,sl 8 aQ a0.units]),I),(5,sl 1 zk v146,En),(6,.int .i64 (j6 .i64 (s0.2.1+1)),I)],[]⟩) (by simp only[go_sem,seval,Cn,Cm,nC,iD,l0,yx xe,nD,tJ,Pp Cq tJ]<;>rfl) (lj (Ek _))
    ·cases h
  ·rw[l0]at iD
   cases h
   exact kN (bF:=⟨[(1,sl 1 zk a1,I),(2,.ah (.agg [.int .i64 a0.day,sl 5 zw a0.ar,sl 4 zm a0.ae,sl 8 aQ a0.units]),I),(5,sl 1 zk s0.1,s0.2.2),(6,.int .i64 (j6 .i64 (s0.2.1+1)),I)],[]⟩) (by simp only[go_sem,seval,Cn,Cm,nC,iD,l0]<;>rfl) (lj (Ek _))
 ·cases h
  exact zu (by simp only[go_sem,seval,Cn,Cm,nC,PZ]<;>rfl)
theorem j1c (a0:qc)(a1:Option (List (List UInt8))){s0 d}(h:aY (BJ a0 a1) s0=Eh d):X pr (.loop Cn) (Cm a0 a1 s0)=Eh (PZ a0 a1 d):=y8 (j0i a0 a1) (fun d hh=>by cases hh) h
def f39 (a0:qc)(a1:Option (List (List UInt8))):Option ((Option (List (List UInt8)))×Bool):=
 jw (aY (BJ a0 a1) (Eo,0,I)) fun d148=>
 Eh (d148.1,d148.2.1)
theorem W39 {a0 a1 r}(h:f39 a0 a1=Eh r):jy pr (X pr) 39 [aR a0,sl 1 zk a1]=Eh (sl 1 zk r.1,r.2):=by
 unfold f39 at h
 refine eh P0 ?_
 repeat' first|(replace h:=jx h;obtain⟨d,g,h⟩:=h;with_reducible first|(replace g:=j1c a0 a1 g;dsimp only[Cm,PZ,y7]at g h)|skip)|(replace h:=jz h;rcases h with⟨g,h⟩|⟨g,h⟩)|fail
 all_goals (cases h<;>(simp only[go_sem,seval,P0, *];exact⟨_,rfl⟩))
def BF (a0:Option (List (List UInt8)))(a1:Option (List (List UInt8)))(s0:Int):Option (Int⊕(Unit⊕Int)):=
 cond (decide (s0<((a0.getD []).length:Int)))
  (jw (zn (a0.getD []) s0) fun eO=>
  jw (zn (a1.getD []) s0) fun hO=>
  cond (decide (eO=hO))
   (Eh (.inl (j6 .i64 (s0+1))))
   (Eh (.inr (.inl ()))))
  (Eh (.inr (.inr s0)))
def La (a0:Option (List (List UInt8)))(a1:Option (List (List UInt8)))(s0:Int):qg:=⟨[(0,sl 1 zk a0,I),(1,sl 1 zk a1,I),(5,Iv s0,I)],[]⟩
def Lb (a0:Option (List (List UInt8)))(a1:Option (List (List UInt8))):Unit⊕Int→qi×qg
 | .inl d=>(.ret,⟨[(4,.bool I,I)],[]⟩)
 | .inr d=>(.exit 0,⟨[(0,sl 1 zk a0,I),(1,sl 1 zk a1,I),(5,Iv d,I),(14,.bool I,I)],[]⟩)
theorem j2j (a0:Option (List (List UInt8)))(a1:Option (List (List UInt8)))(s0:Int)(r)(h:BF a0 a1 s0=Eh r):yr pr Lc (La a0 a1) (Lb a0 a1) s0 r:=by
 unfold BF at h
 repeat' first|(replace h:=jx h;obtain⟨d,g,h⟩:=h)|(replace h:=jz h;rcases h with⟨g,h⟩|⟨g,h⟩)|fail
 all_goals (cases h<;>(first|(refine zu ?_;simp only[go_sem,seval,Lc,La,zj,Lb, *]<;>rfl)|(refine yl ?_;simp only[go_sem,seval,Lc,La,zj,Lb, *]<;>rfl)))
theorem j2v (a0:Option (List (List UInt8)))(a1:Option (List (List UInt8))){s0 d}(h:aY (BF a0 a1) s0=Eh d):X pr (.loop Lc) (La a0 a1 s0)=Eh (Lb a0 a1 d):=y8 (j2j a0 a1) (fun d=>by rcases d with d|d<;>(intro hh;cases hh)) h
def f45 (a0:Option (List (List UInt8)))(a1:Option (List (List UInt8))):Option Bool:=
 cond (decide (((a0.getD []).length:Int)=((a1.getD []).length:Int)))
  (jw (aY (BF a0 a1) 0) fun d20=>match d20 with
   | .inl d22=>
    Eh I
   | .inr d23=>
    Eh En)
  (Eh I)
theorem W45 {a0 a1 r}(h:f45 a0 a1=Eh r):jy pr (X pr) 45 [sl 1 zk a0,sl 1 zk a1]=Eh (.bool r,I):=by
 unfold f45 at h
 refine yz P1 ?_
 repeat' first|(replace h:=jx h;obtain⟨d,g,h⟩:=h;with_reducible first|(replace g:=j2v a0 a1 g;rcases d with d|d<;>dsimp only[La,Lb,y7]at g h)|skip)|(replace h:=jz h;rcases h with⟨g,h⟩|⟨g,h⟩)|fail
 all_goals (cases h<;>(simp only[go_sem,seval,P1, *];exact⟨_,rfl⟩))
def f34 (a0:Option (List (List UInt8)))(a1:Int)(a2:Option (List (List UInt8)))(a3:Int):Option Bool:=
 cond (decide (a3=0))
  (cond (decide (a1=a3))
   (jw (f45 a0 a2) fun v3=>
   Eh v3)
   (Eh I))
  (cond (decide (a1=a3))
   (jw (f45 a0 Eo) fun v6=>
   Eh v6)
   (Eh I))
theorem W34 {a0 a1 a2 a3 r}(h:f34 a0 a1 a2 a3=Eh r):jy pr (X pr) 34 [sl 1 zk a0,Iv a1,sl 1 zk a2,Iv a3]=Eh (.bool r,I):=by
 unfold f34 at h
 refine yz Ld ?_
 repeat' first|(replace h:=jx h;obtain⟨d,g,h⟩:=h; (with_reducible first|replace g:=W45 g|skip);try dsimp only[y7,hH,List.map,kh,zk,zw,zm,aQ,y9,vev,aV,zx,db,aE,aR,aU,aL,aP,aD]at g)|(replace h:=jz h;rcases h with⟨g,h⟩|⟨g,h⟩)|fail
 all_goals (cases h<;>(simp only[go_sem,seval,Ld, *];exact⟨_,rfl⟩))
end Go.Z
end
