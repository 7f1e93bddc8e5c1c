/- Chapter 10. -/
import Derived.Test.YtfopaakmgogpiaaGreatDoorCA
import Derived.Test.YtfopaakmgogpiaaGreatDoorAbsL
set_option linter.unusedVariables false
set_option linter.unusedSimpArgs false
set_option maxRecDepth 100000
set_option maxHeartbeats 4000000
noncomputable section
namespace Go.Z
open Go Go.Abs Go.W
def f53 (a0:Bool)(a1:Int):Option Int:=
 cond a0
  (some a1)
  (some 0)
theorem W53 {a0:Bool}{a1:Int}{r}(h:f53 a0 a1=some r):j6 pr (X pr) 53 [.bool a0,Iv a1]=some (Iv r,false):=by
 unfold f53 at h
 rcases jx h with⟨h1,h⟩|⟨h1,h⟩
 ·obtain rfl:=oi h
  refine zk c53 ?_
  simp only[go_sem,seval,c53,h1]
  exact⟨_,rfl⟩
 obtain rfl:=oi h
 refine zk c53 ?_
 simp only[go_sem,seval,c53,h1]
 exact⟨_,rfl⟩
def qqi (a0:TI)(s0:Int):Option (Int⊕(Int⊕Int)):=
 cond (decide (s0<((a0.getD []).length:Int)))
  (jy (zz (a0.getD []) s0) fun v10=>
  cond (decide (v10=0))
   (some (.inl (j8 .i64 (s0+1))))
   (some (.inr (.inl v10))))
  (some (.inr (.inr s0)))
def qmw (a0:TI)(s0:Int):qg:=⟨[(5,sl 1 yb a0,false),(6,Lv a0,false),(7,Iv s0,false)],[]⟩
def qpp (a0:TI):Int⊕Int→qn×qg
 | .inl d=>(.ret,⟨[(2,Iv d,false)],[]⟩)
 | .inr d=>(.exit 0,⟨[(5,sl 1 yb a0,false),(6,Lv a0,false),(7,Iv d,false),(8,.bool false,false)],[]⟩)
theorem jrb (a0:TI)(s0:Int)(r)(h:qqi a0 s0=some r):y6 pr qus (qmw a0) (qpp a0) s0 r:=by
 unfold qqi at h
 rcases jx h with⟨h9,h⟩|⟨h9,h⟩
 ·obtain⟨v10,h11,h⟩:=jw h
  rcases jx h with⟨h12,h⟩|⟨h12,h⟩
  ·cases h
   exact zq (by simp only[go_sem,seval,qus,qmw,h9,jz h11,h12]<;>rfl)
  cases h
  exact zd (by simp only[go_sem,seval,qus,qmw,h9,jz h11,h12,qpp]<;>rfl)
 cases h
 exact zd (by simp only[go_sem,seval,qus,qmw,h9,qpp]<;>rfl)
theorem jgg (a0:TI){s0:Int}{d}(h:itO (qqi a0) s0=some d):X pr (.loop qus) (qmw a0 s0)=some (qpp a0 d):=km (jrb a0) (fun d=>by rcases d with d|d<;>(intro hh;cases hh)) h
def f51 (a0:TI):Option Int:=
 jy (itO (qqi a0) 0) fun d13=>match d13 with
  | .inl d15=>
   some d15
  | .inr d16=>
   some 0
theorem W51 {a0:TI}{r}(h:f51 a0=some r):j6 pr (X pr) 51 [sl 1 yb a0]=some (Iv r,false):=by
 unfold f51 at h
 obtain⟨d13,h14,h⟩:=jw h
 rcases d13 with d15|d16
 ·have wh14:=jgg a0 h14
  dsimp only[qmw,qpp]at wh14
  obtain rfl:=oi h
  refine zk c51 ?_
  simp only[go_sem,seval,c51,wh14]
  exact⟨_,rfl⟩
 have wh14:=jgg a0 h14
 dsimp only[qmw,qpp]at wh14
 obtain rfl:=oi h
 refine zk c51 ?_
 simp only[go_sem,seval,c51,wh14]
 exact⟨_,rfl⟩
def f52 (a0:Int)(a1:Int)(a2:Int):Option Int:=
 cond (decide (a0<a1))
  (jy (f53 true 3) fun v2=>
  some v2)
  (jy (f53 (decide (a2<a0)) 3) fun v4=>
  some v4)
theorem W52 {a0:Int}{a1:Int}{a2:Int}{r}(h:f52 a0 a1 a2=some r):j6 pr (X pr) 52 [Iv a0,Iv a1,Iv a2]=some (Iv r,false):=by
 unfold f52 at h
 rcases jx h with⟨h1,h⟩|⟨h1,h⟩
 ·obtain⟨v2,h3,h⟩:=jw h
  obtain rfl:=oi h
  refine zk c52 ?_
  simp only[go_sem,seval,c52,h1,W53 h3]
  exact⟨_,rfl⟩
 obtain⟨v4,h5,h⟩:=jw h
 have wh5:=W53 h5
 obtain rfl:=oi h
 refine zk c52 ?_
 simp only[go_sem,seval,c52,h1,wh5]
 exact⟨_,rfl⟩
def qnn (a0:List UInt8)(s0:Int):Option (Int⊕(Unit⊕Int)):=
 cond (decide (s0<(a0.length:Int)))
  (jy (zz a0 s0) fun v70=>
  cond (decide (65≤(v70.toNat:Int)))
   (cond (decide ((v70.toNat:Int)≤90))
    (cond (decide (48≤(v70.toNat:Int)))
     (cond (decide ((v70.toNat:Int)≤57))
      (some (.inl (j8 .i64 (s0+1))))
      (some (.inl (j8 .i64 (s0+1)))))
     (some (.inl (j8 .i64 (s0+1)))))
    (cond (decide (97≤(v70.toNat:Int)))
     (cond (decide (48≤(v70.toNat:Int)))
      (cond (decide ((v70.toNat:Int)≤57))
       (cond (decide ((v70.toNat:Int)≤122))
        (some (.inl (j8 .i64 (s0+1))))
        (cond (decide (s0=0))
         (some (.inr (.inl ())))
         (some (.inl (j8 .i64 (s0+1))))))
       (cond (decide ((v70.toNat:Int)≤122))
        (some (.inl (j8 .i64 (s0+1))))
        (cond (decide (s0=0))
         (some (.inr (.inl ())))
         (cond (decide ((v70.toNat:Int)=95))
          (some (.inl (j8 .i64 (s0+1))))
          (some (.inr (.inl ())))))))
      (cond (decide ((v70.toNat:Int)≤122))
       (some (.inl (j8 .i64 (s0+1))))
       (cond (decide (s0=0))
        (some (.inr (.inl ())))
        (cond (decide ((v70.toNat:Int)=95))
         (some (.inl (j8 .i64 (s0+1))))
         (some (.inr (.inl ())))))))
     (cond (decide (48≤(v70.toNat:Int)))
      (cond (decide ((v70.toNat:Int)≤57))
       (cond (decide (s0=0))
        (some (.inr (.inl ())))
        (some (.inl (j8 .i64 (s0+1)))))
       (cond (decide (s0=0))
        (some (.inr (.inl ())))
        (cond (decide ((v70.toNat:Int)=95))
         (some (.inl (j8 .i64 (s0+1))))
         (some (.inr (.inl ()))))))
      (cond (decide (s0=0))
       (some (.inr (.inl ())))
       (cond (decide ((v70.toNat:Int)=95))
        (some (.inl (j8 .i64 (s0+1))))
        (some (.inr (.inl ()))))))))
   (cond (decide (97≤(v70.toNat:Int)))
    (cond (decide (48≤(v70.toNat:Int)))
     (cond (decide ((v70.toNat:Int)≤57))
      (cond (decide ((v70.toNat:Int)≤122))
       (some (.inl (j8 .i64 (s0+1))))
       (cond (decide (s0=0))
        (some (.inr (.inl ())))
        (some (.inl (j8 .i64 (s0+1))))))
      (cond (decide ((v70.toNat:Int)≤122))
       (some (.inl (j8 .i64 (s0+1))))
       (cond (decide (s0=0))
        (some (.inr (.inl ())))
        (cond (decide ((v70.toNat:Int)=95))
         (some (.inl (j8 .i64 (s0+1))))
         (some (.inr (.inl ())))))))
     (cond (decide ((v70.toNat:Int)≤122))
      (some (.inl (j8 .i64 (s0+1))))
      (cond (decide (s0=0))
       (some (.inr (.inl ())))
       (cond (decide ((v70.toNat:Int)=95))
        (some (.inl (j8 .i64 (s0+1))))
        (some (.inr (.inl ())))))))
    (cond (decide (48≤(v70.toNat:Int)))
     (cond (decide ((v70.toNat:Int)≤57))
      (cond (decide (s0=0))
       (some (.inr (.inl ())))
       (some (.inl (j8 .i64 (s0+1)))))
      (cond (decide (s0=0))
       (some (.inr (.inl ())))
       (cond (decide ((v70.toNat:Int)=95))
        (some (.inl (j8 .i64 (s0+1))))
        (some (.inr (.inl ()))))))
     (cond (decide (s0=0))
      (some (.inr (.inl ())))
      (cond (decide ((v70.toNat:Int)=95))
       (some (.inl (j8 .i64 (s0+1))))
       (some (.inr (.inl ()))))))))
  (some (.inr (.inr s0)))
def kq (a0:List UInt8)(s0:Int):qg:=⟨[(0,.str a0,false),(3,Iv s0,false)],[]⟩
def qbk (a0:List UInt8):Unit⊕Int→qn×qg
 | .inl d=>(.ret,⟨[(2,.bool false,false)],[]⟩)
 | .inr d=>(.exit 0,⟨[(0,.str a0,false),(3,Iv d,false),(17,.bool false,false)],[]⟩)
theorem jz1 (a0:List UInt8)(s0:Int)(r)(h:qnn a0 s0=some r):y6 pr qai (kq a0) (qbk a0) s0 r:=by
 unfold qnn at h
 rcases jx h with⟨h69,h⟩|⟨h69,h⟩
 ·obtain⟨v70,h71,h⟩:=jw h
  rcases jx h with⟨h72,h⟩|⟨h72,h⟩
  ·rcases jx h with⟨h73,h⟩|⟨h73,h⟩
   ·rcases jx h with⟨h74,h⟩|⟨h74,h⟩
    ·rcases jx h with⟨h75,h⟩|⟨h75,h⟩
     ·cases h
      exact zq (by simp only[go_sem,seval,qai,kq,h69,y8 h71,h72,h73,h74,h75]<;>rfl)
     cases h
     exact zq (by simp only[go_sem,seval,qai,kq,h69,y8 h71,h72,h73,h74,h75]<;>rfl)
    cases h
    exact zq (by simp only[go_sem,seval,qai,kq,h69,y8 h71,h72,h73,h74]<;>rfl)
   rcases jx h with⟨h76,h⟩|⟨h76,h⟩
   ·rcases jx h with⟨h77,h⟩|⟨h77,h⟩
    ·rcases jx h with⟨h78,h⟩|⟨h78,h⟩
     ·rcases jx h with⟨h79,h⟩|⟨h79,h⟩
      ·cases h
       exact zq (by simp only[go_sem,seval,qai,kq,h69,y8 h71,h72,h73,h76,h77,h78,h79]<;>rfl)
      rcases jx h with⟨h80,h⟩|⟨h80,h⟩
      ·cases h
       exact zd (by simp only[go_sem,seval,qai,kq,h69,y8 h71,h72,h73,h76,h77,h78,h79,h80,qbk]<;>rfl)
      cases h
      exact zq (by simp only[go_sem,seval,qai,kq,h69,y8 h71,h72,h73,h76,h77,h78,h79,h80]<;>rfl)
     rcases jx h with⟨h81,h⟩|⟨h81,h⟩
     ·cases h
      exact zq (by simp only[go_sem,seval,qai,kq,h69,y8 h71,h72,h73,h76,h77,h78,h81]<;>rfl)
     rcases jx h with⟨h82,h⟩|⟨h82,h⟩
     ·cases h
      exact zd (by simp only[go_sem,seval,qai,kq,h69,y8 h71,h72,h73,h76,h77,h78,h81,h82,qbk]<;>rfl)
     rcases jx h with⟨h83,h⟩|⟨h83,h⟩
     ·cases h
      exact zq (by simp only[go_sem,seval,qai,kq,h69,y8 h71,h72,h73,h76,h77,h78,h81,h82,h83]<;>rfl)
     cases h
     exact zd (by simp only[go_sem,seval,qai,kq,h69,y8 h71,h72,h73,h76,h77,h78,h81,h82,h83,qbk]<;>rfl)
    rcases jx h with⟨h84,h⟩|⟨h84,h⟩
    ·cases h
     exact zq (by simp only[go_sem,seval,qai,kq,h69,y8 h71,h72,h73,h76,h77,h84]<;>rfl)
    rcases jx h with⟨h85,h⟩|⟨h85,h⟩
    ·cases h
     exact zd (by simp only[go_sem,seval,qai,kq,h69,y8 h71,h72,h73,h76,h77,h84,h85,qbk]<;>rfl)
    rcases jx h with⟨h86,h⟩|⟨h86,h⟩
    ·cases h
     exact zq (by simp only[go_sem,seval,qai,kq,h69,y8 h71,h72,h73,h76,h77,h84,h85,h86]<;>rfl)
    cases h
    exact zd (by simp only[go_sem,seval,qai,kq,h69,y8 h71,h72,h73,h76,h77,h84,h85,h86,qbk]<;>rfl)
   rcases jx h with⟨h87,h⟩|⟨h87,h⟩
   ·rcases jx h with⟨h88,h⟩|⟨h88,h⟩
    ·rcases jx h with⟨h89,h⟩|⟨h89,h⟩
     ·cases h
      exact zd (by simp only[go_sem,seval,qai,kq,h69,y8 h71,h72,h73,h76,h87,h88,h89,qbk]<;>rfl)
     cases h
     exact zq (by simp only[go_sem,seval,qai,kq,h69,y8 h71,h72,h73,h76,h87,h88,h89]<;>rfl)
    rcases jx h with⟨h90,h⟩|⟨h90,h⟩
    ·cases h
     exact zd (by simp only[go_sem,seval,qai,kq,h69,y8 h71,h72,h73,h76,h87,h88,h90,qbk]<;>rfl)
    rcases jx h with⟨h91,h⟩|⟨h91,h⟩
    ·cases h
     exact zq (by simp only[go_sem,seval,qai,kq,h69,y8 h71,h72,h73,h76,h87,h88,h90,h91]<;>rfl)
    cases h
    exact zd (by simp only[go_sem,seval,qai,kq,h69,y8 h71,h72,h73,h76,h87,h88,h90,h91,qbk]<;>rfl)
   rcases jx h with⟨h92,h⟩|⟨h92,h⟩
   ·cases h
    exact zd (by simp only[go_sem,seval,qai,kq,h69,y8 h71,h72,h73,h76,h87,h92,qbk]<;>rfl)
   rcases jx h with⟨h93,h⟩|⟨h93,h⟩
   ·cases h
    exact zq (by simp only[go_sem,seval,qai,kq,h69,y8 h71,h72,h73,h76,h87,h92,h93]<;>rfl)
   cases h
   exact zd (by simp only[go_sem,seval,qai,kq,h69,y8 h71,h72,h73,h76,h87,h92,h93,qbk]<;>rfl)
  rcases jx h with⟨h94,h⟩|⟨h94,h⟩
  ·rcases jx h with⟨h95,h⟩|⟨h95,h⟩
   ·rcases jx h with⟨h96,h⟩|⟨h96,h⟩
    ·rcases jx h with⟨h97,h⟩|⟨h97,h⟩
     ·cases h
      exact zq (by simp only[go_sem,seval,qai,kq,h69,y8 h71,h72,h94,h95,h96,h97]<;>rfl)
     rcases jx h with⟨h98,h⟩|⟨h98,h⟩
     ·cases h
      exact zd (by simp only[go_sem,seval,qai,kq,h69,y8 h71,h72,h94,h95,h96,h97,h98,qbk]<;>rfl)
     cases h
     exact zq (by simp only[go_sem,seval,qai,kq,h69,y8 h71,h72,h94,h95,h96,h97,h98]<;>rfl)
    rcases jx h with⟨h99,h⟩|⟨h99,h⟩
    ·cases h
     exact zq (by simp only[go_sem,seval,qai,kq,h69,y8 h71,h72,h94,h95,h96,h99]<;>rfl)
    rcases jx h with⟨h100,h⟩|⟨h100,h⟩
    ·cases h
     exact zd (by simp only[go_sem,seval,qai,kq,h69,y8 h71,h72,h94,h95,h96,h99,h100,qbk]<;>rfl)
    rcases jx h with⟨h101,h⟩|⟨h101,h⟩
    ·cases h
     exact zq (by simp only[go_sem,seval,qai,kq,h69,y8 h71,h72,h94,h95,h96,h99,h100,h101]<;>rfl)
    cases h
    exact zd (by simp only[go_sem,seval,qai,kq,h69,y8 h71,h72,h94,h95,h96,h99,h100,h101,qbk]<;>rfl)
   rcases jx h with⟨h102,h⟩|⟨h102,h⟩
   ·cases h
    exact zq (by simp only[go_sem,seval,qai,kq,h69,y8 h71,h72,h94,h95,h102]<;>rfl)
   rcases jx h with⟨h103,h⟩|⟨h103,h⟩
   ·cases h
    exact zd (by simp only[go_sem,seval,qai,kq,h69,y8 h71,h72,h94,h95,h102,h103,qbk]<;>rfl)
   rcases jx h with⟨h104,h⟩|⟨h104,h⟩
   ·cases h
    exact zq (by simp only[go_sem,seval,qai,kq,h69,y8 h71,h72,h94,h95,h102,h103,h104]<;>rfl)
   cases h
   exact zd (by simp only[go_sem,seval,qai,kq,h69,y8 h71,h72,h94,h95,h102,h103,h104,qbk]<;>rfl)
  rcases jx h with⟨h105,h⟩|⟨h105,h⟩
  ·rcases jx h with⟨h106,h⟩|⟨h106,h⟩
   ·rcases jx h with⟨h107,h⟩|⟨h107,h⟩
    ·cases h
     exact zd (by simp only[go_sem,seval,qai,kq,h69,y8 h71,h72,h94,h105,h106,h107,qbk]<;>rfl)
    cases h
    exact zq (by simp only[go_sem,seval,qai,kq,h69,y8 h71,h72,h94,h105,h106,h107]<;>rfl)
   rcases jx h with⟨h108,h⟩|⟨h108,h⟩
   ·cases h
    exact zd (by simp only[go_sem,seval,qai,kq,h69,y8 h71,h72,h94,h105,h106,h108,qbk]<;>rfl)
   rcases jx h with⟨h109,h⟩|⟨h109,h⟩
   ·cases h
    exact zq (by simp only[go_sem,seval,qai,kq,h69,y8 h71,h72,h94,h105,h106,h108,h109]<;>rfl)
   cases h
   exact zd (by simp only[go_sem,seval,qai,kq,h69,y8 h71,h72,h94,h105,h106,h108,h109,qbk]<;>rfl)
  rcases jx h with⟨h110,h⟩|⟨h110,h⟩
  ·cases h
   exact zd (by simp only[go_sem,seval,qai,kq,h69,y8 h71,h72,h94,h105,h110,qbk]<;>rfl)
  rcases jx h with⟨h111,h⟩|⟨h111,h⟩
  ·cases h
   exact zq (by simp only[go_sem,seval,qai,kq,h69,y8 h71,h72,h94,h105,h110,h111]<;>rfl)
  cases h
  exact zd (by simp only[go_sem,seval,qai,kq,h69,y8 h71,h72,h94,h105,h110,h111,qbk]<;>rfl)
 cases h
 exact zd (by simp only[go_sem,seval,qai,kq,h69,qbk]<;>rfl)
theorem jge (a0:List UInt8){s0:Int}{d}(h:itO (qnn a0) s0=some d):X pr (.loop qai) (kq a0 s0)=some (qbk a0 d):=km (jz1 a0) (fun d=>by rcases d with d|d<;>(intro hh;cases hh)) h
def f26 (a0:List UInt8):Option Bool:=
 cond (decide ((a0.length:Int)=0))
  (some false)
  (cond (decide (24<(a0.length:Int)))
   (some false)
   (jy (itO (qnn a0) 0) fun d112=>match d112 with
    | .inl d114=>
     some false
    | .inr d115=>
     some true))
theorem W26 {a0:List UInt8}{r}(h:f26 a0=some r):j6 pr (X pr) 26 [.str a0]=some (.bool r,false):=by
 unfold f26 at h
 rcases jx h with⟨h1,h⟩|⟨h1,h⟩
 ·obtain rfl:=oi h
  refine zk c26 ?_
  simp only[go_sem,seval,c26,h1]
  exact⟨_,rfl⟩
 rcases jx h with⟨h2,h⟩|⟨h2,h⟩
 ·obtain rfl:=oi h
  refine zk c26 ?_
  simp only[go_sem,seval,c26,h1,h2]
  exact⟨_,rfl⟩
 obtain⟨d112,h113,h⟩:=jw h
 rcases d112 with d114|d115
 ·have wh113:=jge a0 h113
  dsimp only[kq,qbk]at wh113
  obtain rfl:=oi h
  refine zk c26 ?_
  simp only[go_sem,seval,c26,h1,h2,wh113]
  exact⟨_,rfl⟩
 have wh113:=jge a0 h113
 dsimp only[kq,qbk]at wh113
 obtain rfl:=oi h
 refine zk c26 ?_
 simp only[go_sem,seval,c26,h1,h2,wh113]
 exact⟨_,rfl⟩
def qki (a0:List UInt8):Option (Option (Nat)⊕(Nat⊕Nat)):=
 cond (decide (0<a0.length))
  (cond (decide (65≤((zo a0 0).1:Int)))
   (cond (decide (((zo a0 0).1:Int)≤90))
    (cond (decide (48≤((zo a0 0).1:Int)))
     (cond (decide (((zo a0 0).1:Int)≤57))
      (some (.inl (some (0+(zo a0 0).2))))
      (some (.inl (some (0+(zo a0 0).2)))))
     (some (.inl (some (0+(zo a0 0).2)))))
    (cond (decide (97≤((zo a0 0).1:Int)))
     (cond (decide (48≤((zo a0 0).1:Int)))
      (cond (decide (((zo a0 0).1:Int)≤57))
       (cond (decide (((zo a0 0).1:Int)≤122))
        (some (.inl (some (0+(zo a0 0).2))))
        (some (.inr (.inl (0+(zo a0 0).2)))))
       (cond (decide (((zo a0 0).1:Int)≤122))
        (some (.inl (some (0+(zo a0 0).2))))
        (some (.inr (.inl (0+(zo a0 0).2))))))
      (cond (decide (((zo a0 0).1:Int)≤122))
       (some (.inl (some (0+(zo a0 0).2))))
       (some (.inr (.inl (0+(zo a0 0).2))))))
     (cond (decide (48≤((zo a0 0).1:Int)))
      (cond (decide (((zo a0 0).1:Int)≤57))
       (some (.inr (.inl (0+(zo a0 0).2))))
       (some (.inr (.inl (0+(zo a0 0).2)))))
      (some (.inr (.inl (0+(zo a0 0).2)))))))
   (cond (decide (97≤((zo a0 0).1:Int)))
    (cond (decide (48≤((zo a0 0).1:Int)))
     (cond (decide (((zo a0 0).1:Int)≤57))
      (cond (decide (((zo a0 0).1:Int)≤122))
       (some (.inl (some (0+(zo a0 0).2))))
       (some (.inr (.inl (0+(zo a0 0).2)))))
      (cond (decide (((zo a0 0).1:Int)≤122))
       (some (.inl (some (0+(zo a0 0).2))))
       (some (.inr (.inl (0+(zo a0 0).2))))))
     (cond (decide (((zo a0 0).1:Int)≤122))
      (some (.inl (some (0+(zo a0 0).2))))
      (some (.inr (.inl (0+(zo a0 0).2))))))
    (cond (decide (48≤((zo a0 0).1:Int)))
     (cond (decide (((zo a0 0).1:Int)≤57))
      (some (.inr (.inl (0+(zo a0 0).2))))
      (some (.inr (.inl (0+(zo a0 0).2)))))
     (some (.inr (.inl (0+(zo a0 0).2)))))))
  (some (.inr (.inr 0)))
def qks (a0:List UInt8)(s0:Nat):Option (Option (Nat)⊕(Nat⊕Nat)):=
 cond (decide (s0<a0.length))
  (cond (decide (65≤((zo a0 s0).1:Int)))
   (cond (decide (((zo a0 s0).1:Int)≤90))
    (cond (decide (48≤((zo a0 s0).1:Int)))
     (cond (decide (((zo a0 s0).1:Int)≤57))
      (some (.inl (some (s0+(zo a0 s0).2))))
      (some (.inl (some (s0+(zo a0 s0).2)))))
     (some (.inl (some (s0+(zo a0 s0).2)))))
    (cond (decide (97≤((zo a0 s0).1:Int)))
     (cond (decide (48≤((zo a0 s0).1:Int)))
      (cond (decide (((zo a0 s0).1:Int)≤57))
       (cond (decide (((zo a0 s0).1:Int)≤122))
        (some (.inl (some (s0+(zo a0 s0).2))))
        (cond (decide ((s0:Int)=0))
         (some (.inr (.inl (s0+(zo a0 s0).2))))
         (some (.inl (some (s0+(zo a0 s0).2))))))
       (cond (decide (((zo a0 s0).1:Int)≤122))
        (some (.inl (some (s0+(zo a0 s0).2))))
        (cond (decide ((s0:Int)=0))
         (some (.inr (.inl (s0+(zo a0 s0).2))))
         (cond (decide (((zo a0 s0).1:Int)=95))
          (some (.inl (some (s0+(zo a0 s0).2))))
          (some (.inr (.inl (s0+(zo a0 s0).2))))))))
      (cond (decide (((zo a0 s0).1:Int)≤122))
       (some (.inl (some (s0+(zo a0 s0).2))))
       (cond (decide ((s0:Int)=0))
        (some (.inr (.inl (s0+(zo a0 s0).2))))
        (cond (decide (((zo a0 s0).1:Int)=95))
         (some (.inl (some (s0+(zo a0 s0).2))))
         (some (.inr (.inl (s0+(zo a0 s0).2))))))))
     (cond (decide (48≤((zo a0 s0).1:Int)))
      (cond (decide (((zo a0 s0).1:Int)≤57))
       (cond (decide ((s0:Int)=0))
        (some (.inr (.inl (s0+(zo a0 s0).2))))
        (some (.inl (some (s0+(zo a0 s0).2)))))
       (cond (decide ((s0:Int)=0))
        (some (.inr (.inl (s0+(zo a0 s0).2))))
        (cond (decide (((zo a0 s0).1:Int)=95))
         (some (.inl (some (s0+(zo a0 s0).2))))
         (some (.inr (.inl (s0+(zo a0 s0).2)))))))
      (cond (decide ((s0:Int)=0))
       (some (.inr (.inl (s0+(zo a0 s0).2))))
       (cond (decide (((zo a0 s0).1:Int)=95))
        (some (.inl (some (s0+(zo a0 s0).2))))
        (some (.inr (.inl (s0+(zo a0 s0).2)))))))))
   (cond (decide (97≤((zo a0 s0).1:Int)))
    (cond (decide (48≤((zo a0 s0).1:Int)))
     (cond (decide (((zo a0 s0).1:Int)≤57))
      (cond (decide (((zo a0 s0).1:Int)≤122))
       (some (.inl (some (s0+(zo a0 s0).2))))
       (cond (decide ((s0:Int)=0))
        (some (.inr (.inl (s0+(zo a0 s0).2))))
        (some (.inl (some (s0+(zo a0 s0).2))))))
      (cond (decide (((zo a0 s0).1:Int)≤122))
       (some (.inl (some (s0+(zo a0 s0).2))))
       (cond (decide ((s0:Int)=0))
        (some (.inr (.inl (s0+(zo a0 s0).2))))
        (cond (decide (((zo a0 s0).1:Int)=95))
         (some (.inl (some (s0+(zo a0 s0).2))))
         (some (.inr (.inl (s0+(zo a0 s0).2))))))))
     (cond (decide (((zo a0 s0).1:Int)≤122))
      (some (.inl (some (s0+(zo a0 s0).2))))
      (cond (decide ((s0:Int)=0))
       (some (.inr (.inl (s0+(zo a0 s0).2))))
       (cond (decide (((zo a0 s0).1:Int)=95))
        (some (.inl (some (s0+(zo a0 s0).2))))
        (some (.inr (.inl (s0+(zo a0 s0).2))))))))
    (cond (decide (48≤((zo a0 s0).1:Int)))
     (cond (decide (((zo a0 s0).1:Int)≤57))
      (cond (decide ((s0:Int)=0))
       (some (.inr (.inl (s0+(zo a0 s0).2))))
       (some (.inl (some (s0+(zo a0 s0).2)))))
      (cond (decide ((s0:Int)=0))
       (some (.inr (.inl (s0+(zo a0 s0).2))))
       (cond (decide (((zo a0 s0).1:Int)=95))
        (some (.inl (some (s0+(zo a0 s0).2))))
        (some (.inr (.inl (s0+(zo a0 s0).2)))))))
     (cond (decide ((s0:Int)=0))
      (some (.inr (.inl (s0+(zo a0 s0).2))))
      (cond (decide (((zo a0 s0).1:Int)=95))
       (some (.inl (some (s0+(zo a0 s0).2))))
       (some (.inr (.inl (s0+(zo a0 s0).2)))))))))
  (some (.inr (.inr s0)))
def qwj (a0:List UInt8):Option (Nat)→Option (Option (Nat)⊕(Nat⊕Nat))
 |none=>qki a0
 |some x=>qks a0 x
def yi (a0:List UInt8)(s0:Nat):qg:=⟨[(0,.str a0,false),(8,.ptr 0 0,false),(46,.bool false,false)],[.iter a0 s0]⟩
def yo (a0:List UInt8):Option (Nat)→qg
 |none=>⟨[(0,.str a0,false),(8,.ptr 0 0,false)],[.iter a0 0]⟩
 |some x=>yi a0 x
def qac (a0:List UInt8):Nat⊕Nat→qn×qg
 | .inl d=>(.ret,⟨[(2,.bool false,false)],[.iter a0 d]⟩)
 | .inr d=>(.exit 0,⟨[(0,.str a0,false),(8,.ptr 0 0,false),(9,.tup [.bool false],false),(10,.bool false,false)],[.iter a0 d]⟩)
theorem jk9 (a0:List UInt8)(r)(h:qki a0=some r):y6 pr y5 (yo a0) (qac a0) none r:=by
 unfold qki at h
 rcases jx h with⟨h171,h⟩|⟨h171,h⟩
 ·rcases jx h with⟨h172,h⟩|⟨h172,h⟩
  ·rcases jx h with⟨h173,h⟩|⟨h173,h⟩
   ·rcases jx h with⟨h174,h⟩|⟨h174,h⟩
    ·rcases jx h with⟨h175,h⟩|⟨h175,h⟩
     ·cases h
      exact zq (by simp only[go_sem,seval,y5,yo,yi,h171,yq h171,h172,h173,h174,h175]<;>rfl)
     cases h
     exact zq (by simp only[go_sem,seval,y5,yo,yi,h171,yq h171,h172,h173,h174,h175]<;>rfl)
    cases h
    exact zq (by simp only[go_sem,seval,y5,yo,yi,h171,yq h171,h172,h173,h174]<;>rfl)
   rcases jx h with⟨h176,h⟩|⟨h176,h⟩
   ·rcases jx h with⟨h177,h⟩|⟨h177,h⟩
    ·rcases jx h with⟨h178,h⟩|⟨h178,h⟩
     ·rcases jx h with⟨h179,h⟩|⟨h179,h⟩
      ·cases h
       exact zq (by simp only[go_sem,seval,y5,yo,yi,h171,yq h171,h172,h173,h176,h177,h178,h179]<;>rfl)
      cases h
      exact zd (by simp only[go_sem,seval,y5,yo,yi,h171,yq h171,h172,h173,h176,h177,h178,h179,qac]<;>rfl)
     rcases jx h with⟨h180,h⟩|⟨h180,h⟩
     ·cases h
      exact zq (by simp only[go_sem,seval,y5,yo,yi,h171,yq h171,h172,h173,h176,h177,h178,h180]<;>rfl)
     cases h
     exact zd (by simp only[go_sem,seval,y5,yo,yi,h171,yq h171,h172,h173,h176,h177,h178,h180,qac]<;>rfl)
    rcases jx h with⟨h181,h⟩|⟨h181,h⟩
    ·cases h
     exact zq (by simp only[go_sem,seval,y5,yo,yi,h171,yq h171,h172,h173,h176,h177,h181]<;>rfl)
    cases h
    exact zd (by simp only[go_sem,seval,y5,yo,yi,h171,yq h171,h172,h173,h176,h177,h181,qac]<;>rfl)
   rcases jx h with⟨h182,h⟩|⟨h182,h⟩
   ·rcases jx h with⟨h183,h⟩|⟨h183,h⟩
    ·cases h
     exact zd (by simp only[go_sem,seval,y5,yo,yi,h171,yq h171,h172,h173,h176,h182,h183,qac]<;>rfl)
    cases h
    exact zd (by simp only[go_sem,seval,y5,yo,yi,h171,yq h171,h172,h173,h176,h182,h183,qac]<;>rfl)
   cases h
   exact zd (by simp only[go_sem,seval,y5,yo,yi,h171,yq h171,h172,h173,h176,h182,qac]<;>rfl)
  rcases jx h with⟨h184,h⟩|⟨h184,h⟩
  ·rcases jx h with⟨h185,h⟩|⟨h185,h⟩
   ·rcases jx h with⟨h186,h⟩|⟨h186,h⟩
    ·rcases jx h with⟨h187,h⟩|⟨h187,h⟩
     ·cases h
      exact zq (by simp only[go_sem,seval,y5,yo,yi,h171,yq h171,h172,h184,h185,h186,h187]<;>rfl)
     cases h
     exact zd (by simp only[go_sem,seval,y5,yo,yi,h171,yq h171,h172,h184,h185,h186,h187,qac]<;>rfl)
    rcases jx h with⟨h188,h⟩|⟨h188,h⟩
    ·cases h
     exact zq (by simp only[go_sem,seval,y5,yo,yi,h171,yq h171,h172,h184,h185,h186,h188]<;>rfl)
    cases h
    exact zd (by simp only[go_sem,seval,y5,yo,yi,h171,yq h171,h172,h184,h185,h186,h188,qac]<;>rfl)
   rcases jx h with⟨h189,h⟩|⟨h189,h⟩
   ·cases h
    exact zq (by simp only[go_sem,seval,y5,yo,yi,h171,yq h171,h172,h184,h185,h189]<;>rfl)
   cases h
   exact zd (by simp only[go_sem,seval,y5,yo,yi,h171,yq h171,h172,h184,h185,h189,qac]<;>rfl)
  rcases jx h with⟨h190,h⟩|⟨h190,h⟩
  ·rcases jx h with⟨h191,h⟩|⟨h191,h⟩
   ·cases h
    exact zd (by simp only[go_sem,seval,y5,yo,yi,h171,yq h171,h172,h184,h190,h191,qac]<;>rfl)
   cases h
   exact zd (by simp only[go_sem,seval,y5,yo,yi,h171,yq h171,h172,h184,h190,h191,qac]<;>rfl)
  cases h
  exact zd (by simp only[go_sem,seval,y5,yo,yi,h171,yq h171,h172,h184,h190,qac]<;>rfl)
 cases h
 exact zd (by simp only[go_sem,seval,y5,yo,yi,h171,qwq h171,qac]<;>rfl)
theorem jkq (a0:List UInt8)(s0:Nat)(r)(h:qks a0 s0=some r):y6 pr y5 (yo a0) (qac a0) (some s0) r:=by
 unfold qks at h
 rcases jx h with⟨h130,h⟩|⟨h130,h⟩
 ·rcases jx h with⟨h131,h⟩|⟨h131,h⟩
  ·rcases jx h with⟨h132,h⟩|⟨h132,h⟩
   ·rcases jx h with⟨h133,h⟩|⟨h133,h⟩
    ·rcases jx h with⟨h134,h⟩|⟨h134,h⟩
     ·cases h
      exact zq (by simp only[go_sem,seval,y5,yo,yi,h130,yq h130,h131,h132,h133,h134]<;>rfl)
     cases h
     exact zq (by simp only[go_sem,seval,y5,yo,yi,h130,yq h130,h131,h132,h133,h134]<;>rfl)
    cases h
    exact zq (by simp only[go_sem,seval,y5,yo,yi,h130,yq h130,h131,h132,h133]<;>rfl)
   rcases jx h with⟨h135,h⟩|⟨h135,h⟩
   ·rcases jx h with⟨h136,h⟩|⟨h136,h⟩
    ·rcases jx h with⟨h137,h⟩|⟨h137,h⟩
     ·rcases jx h with⟨h138,h⟩|⟨h138,h⟩
      ·cases h
       exact zq (by simp only[go_sem,seval,y5,yo,yi,h130,yq h130,h131,h132,h135,h136,h137,h138]<;>rfl)
      rcases jx h with⟨h139,h⟩|⟨h139,h⟩
      ·cases h
       exact zd (by simp only[go_sem,seval,y5,yo,yi,h130,yq h130,h131,h132,h135,h136,h137,h138,h139,qac]<;>rfl)
      cases h
      exact zq (by simp only[go_sem,seval,y5,yo,yi,h130,yq h130,h131,h132,h135,h136,h137,h138,h139]<;>rfl)
     rcases jx h with⟨h140,h⟩|⟨h140,h⟩
     ·cases h
      exact zq (by simp only[go_sem,seval,y5,yo,yi,h130,yq h130,h131,h132,h135,h136,h137,h140]<;>rfl)
     rcases jx h with⟨h141,h⟩|⟨h141,h⟩
     ·cases h
      exact zd (by simp only[go_sem,seval,y5,yo,yi,h130,yq h130,h131,h132,h135,h136,h137,h140,h141,qac]<;>rfl)
     rcases jx h with⟨h142,h⟩|⟨h142,h⟩
     ·cases h
      exact zq (by simp only[go_sem,seval,y5,yo,yi,h130,yq h130,h131,h132,h135,h136,h137,h140,h141,h142]<;>rfl)
     cases h
     exact zd (by simp only[go_sem,seval,y5,yo,yi,h130,yq h130,h131,h132,h135,h136,h137,h140,h141,h142,qac]<;>rfl)
    rcases jx h with⟨h143,h⟩|⟨h143,h⟩
    ·cases h
     exact zq (by simp only[go_sem,seval,y5,yo,yi,h130,yq h130,h131,h132,h135,h136,h143]<;>rfl)
    rcases jx h with⟨h144,h⟩|⟨h144,h⟩
    ·cases h
     exact zd (by simp only[go_sem,seval,y5,yo,yi,h130,yq h130,h131,h132,h135,h136,h143,h144,qac]<;>rfl)
    rcases jx h with⟨h145,h⟩|⟨h145,h⟩
    ·cases h
     exact zq (by simp only[go_sem,seval,y5,yo,yi,h130,yq h130,h131,h132,h135,h136,h143,h144,h145]<;>rfl)
    cases h
    exact zd (by simp only[go_sem,seval,y5,yo,yi,h130,yq h130,h131,h132,h135,h136,h143,h144,h145,qac]<;>rfl)
   rcases jx h with⟨h146,h⟩|⟨h146,h⟩
   ·rcases jx h with⟨h147,h⟩|⟨h147,h⟩
    ·rcases jx h with⟨h148,h⟩|⟨h148,h⟩
     ·cases h
      exact zd (by simp only[go_sem,seval,y5,yo,yi,h130,yq h130,h131,h132,h135,h146,h147,h148,qac]<;>rfl)
     cases h
     exact zq (by simp only[go_sem,seval,y5,yo,yi,h130,yq h130,h131,h132,h135,h146,h147,h148]<;>rfl)
    rcases jx h with⟨h149,h⟩|⟨h149,h⟩
    ·cases h
     exact zd (by simp only[go_sem,seval,y5,yo,yi,h130,yq h130,h131,h132,h135,h146,h147,h149,qac]<;>rfl)
    rcases jx h with⟨h150,h⟩|⟨h150,h⟩
    ·cases h
     exact zq (by simp only[go_sem,seval,y5,yo,yi,h130,yq h130,h131,h132,h135,h146,h147,h149,h150]<;>rfl)
    cases h
    exact zd (by simp only[go_sem,seval,y5,yo,yi,h130,yq h130,h131,h132,h135,h146,h147,h149,h150,qac]<;>rfl)
   rcases jx h with⟨h151,h⟩|⟨h151,h⟩
   ·cases h
    exact zd (by simp only[go_sem,seval,y5,yo,yi,h130,yq h130,h131,h132,h135,h146,h151,qac]<;>rfl)
   rcases jx h with⟨h152,h⟩|⟨h152,h⟩
   ·cases h
    exact zq (by simp only[go_sem,seval,y5,yo,yi,h130,yq h130,h131,h132,h135,h146,h151,h152]<;>rfl)
   cases h
   exact zd (by simp only[go_sem,seval,y5,yo,yi,h130,yq h130,h131,h132,h135,h146,h151,h152,qac]<;>rfl)
  rcases jx h with⟨h153,h⟩|⟨h153,h⟩
  ·rcases jx h with⟨h154,h⟩|⟨h154,h⟩
   ·rcases jx h with⟨h155,h⟩|⟨h155,h⟩
    ·rcases jx h with⟨h156,h⟩|⟨h156,h⟩
     ·cases h
      exact zq (by simp only[go_sem,seval,y5,yo,yi,h130,yq h130,h131,h153,h154,h155,h156]<;>rfl)
     rcases jx h with⟨h157,h⟩|⟨h157,h⟩
     ·cases h
      exact zd (by simp only[go_sem,seval,y5,yo,yi,h130,yq h130,h131,h153,h154,h155,h156,h157,qac]<;>rfl)
     cases h
     exact zq (by simp only[go_sem,seval,y5,yo,yi,h130,yq h130,h131,h153,h154,h155,h156,h157]<;>rfl)
    rcases jx h with⟨h158,h⟩|⟨h158,h⟩
    ·cases h
     exact zq (by simp only[go_sem,seval,y5,yo,yi,h130,yq h130,h131,h153,h154,h155,h158]<;>rfl)
    rcases jx h with⟨h159,h⟩|⟨h159,h⟩
    ·cases h
     exact zd (by simp only[go_sem,seval,y5,yo,yi,h130,yq h130,h131,h153,h154,h155,h158,h159,qac]<;>rfl)
    rcases jx h with⟨h160,h⟩|⟨h160,h⟩
    ·cases h
     exact zq (by simp only[go_sem,seval,y5,yo,yi,h130,yq h130,h131,h153,h154,h155,h158,h159,h160]<;>rfl)
    cases h
    exact zd (by simp only[go_sem,seval,y5,yo,yi,h130,yq h130,h131,h153,h154,h155,h158,h159,h160,qac]<;>rfl)
   rcases jx h with⟨h161,h⟩|⟨h161,h⟩
   ·cases h
    exact zq (by simp only[go_sem,seval,y5,yo,yi,h130,yq h130,h131,h153,h154,h161]<;>rfl)
   rcases jx h with⟨h162,h⟩|⟨h162,h⟩
   ·cases h
    exact zd (by simp only[go_sem,seval,y5,yo,yi,h130,yq h130,h131,h153,h154,h161,h162,qac]<;>rfl)
   rcases jx h with⟨h163,h⟩|⟨h163,h⟩
   ·cases h
    exact zq (by simp only[go_sem,seval,y5,yo,yi,h130,yq h130,h131,h153,h154,h161,h162,h163]<;>rfl)
   cases h
   exact zd (by simp only[go_sem,seval,y5,yo,yi,h130,yq h130,h131,h153,h154,h161,h162,h163,qac]<;>rfl)
  rcases jx h with⟨h164,h⟩|⟨h164,h⟩
  ·rcases jx h with⟨h165,h⟩|⟨h165,h⟩
   ·rcases jx h with⟨h166,h⟩|⟨h166,h⟩
    ·cases h
     exact zd (by simp only[go_sem,seval,y5,yo,yi,h130,yq h130,h131,h153,h164,h165,h166,qac]<;>rfl)
    cases h
    exact zq (by simp only[go_sem,seval,y5,yo,yi,h130,yq h130,h131,h153,h164,h165,h166]<;>rfl)
   rcases jx h with⟨h167,h⟩|⟨h167,h⟩
   ·cases h
    exact zd (by simp only[go_sem,seval,y5,yo,yi,h130,yq h130,h131,h153,h164,h165,h167,qac]<;>rfl)
   rcases jx h with⟨h168,h⟩|⟨h168,h⟩
   ·cases h
    exact zq (by simp only[go_sem,seval,y5,yo,yi,h130,yq h130,h131,h153,h164,h165,h167,h168]<;>rfl)
   cases h
   exact zd (by simp only[go_sem,seval,y5,yo,yi,h130,yq h130,h131,h153,h164,h165,h167,h168,qac]<;>rfl)
  rcases jx h with⟨h169,h⟩|⟨h169,h⟩
  ·cases h
   exact zd (by simp only[go_sem,seval,y5,yo,yi,h130,yq h130,h131,h153,h164,h169,qac]<;>rfl)
  rcases jx h with⟨h170,h⟩|⟨h170,h⟩
  ·cases h
   exact zq (by simp only[go_sem,seval,y5,yo,yi,h130,yq h130,h131,h153,h164,h169,h170]<;>rfl)
  cases h
  exact zd (by simp only[go_sem,seval,y5,yo,yi,h130,yq h130,h131,h153,h164,h169,h170,qac]<;>rfl)
 cases h
 exact zd (by simp only[go_sem,seval,y5,yo,yi,h130,qwq h130,qac]<;>rfl)
theorem jwn (a0:List UInt8):∀(x:Option (Nat)) (r) (h:qwj a0 x=some r),y6 pr y5 (yo a0) (qac a0) x r
 |none,r,h=>jk9 a0 r h
 |some x,r,h=>jkq a0 x r h
theorem jga (a0:List UInt8){s0:Option (Nat)}{d}(h:itO (qwj a0) s0=some d):X pr (.loop y5) (yo a0 s0)=some (qac a0 d):=km (jwn a0) (fun d=>by rcases d with d|d<;>(intro hh;cases hh)) h
def f56 (a0:List UInt8):Option Bool:=
 jy (itO (qwj a0) none) fun d192=>match d192 with
  | .inl d194=>
   some false
  | .inr d195=>
   cond (decide (a0=[]))
    (some false)
    (some (decide ((a0.length:Int)≤24)))
theorem W56 {a0:List UInt8}{r}(h:f56 a0=some r):j6 pr (X pr) 56 [.str a0]=some (.bool r,false):=by
 unfold f56 at h
 obtain⟨d192,h193,h⟩:=jw h
 rcases d192 with d194|d195
 ·have wh193:=jga a0 h193
  dsimp only[yo,yi,qac]at wh193
  obtain rfl:=oi h
  refine zk c56 ?_
  simp only[go_sem,seval,c56,wh193]
  exact⟨_,rfl⟩
 have wh193:=jga a0 h193
 dsimp only[yo,yi,qac]at wh193
 rcases jx h with⟨h196,h⟩|⟨h196,h⟩
 ·obtain rfl:=oi h
  refine zk c56 ?_
  simp only[go_sem,seval,c56,wh193,h196]
  exact⟨_,rfl⟩
 obtain rfl:=oi h
 refine zk c56 ?_
 simp only[go_sem,seval,c56,wh193,h196]
 exact⟨_,rfl⟩
end Go.Z
namespace Go.Z
open Go Go.Abs Go.W
def qys (a0:List UInt8):Option Int:=
 jy (f56 a0) fun v1=>
 jy (f53 (!v1) 8) fun v3=>
 some v3
theorem j39 (hp:zb){a0:List UInt8}{r}(h:qys a0=some r):zj pr (X pr) 55 [.str a0] hp=some (Iv r,false,hp):=by
 unfold qys at h
 obtain⟨v1,h2,h⟩:=jw h
 obtain⟨v3,h4,h⟩:=jw h
 have wh4:=W53 h4
 have hr:v3=r:=Option.some.inj h
 subst hr
 rw[zc (show pr.fns 55=some c55 from rfl) (by simp)]
 simp only[go_sem,seval,c55,W56 h2,wh4]<;>rfl
def qzp (a0:Int):Option Int:=
 jy (f52 a0 0 999999999) fun v1=>
 some v1
theorem j8e (hp:zb){a0:Int}{r}(h:qzp a0=some r):zj pr (X pr) 58 [Iv a0] hp=some (Iv r,false,hp):=by
 unfold qzp at h
 obtain⟨v1,h2,h⟩:=jw h
 have hr:v1=r:=Option.some.inj h
 subst hr
 rw[zc (show pr.fns 58=some c58 from rfl) (by simp)]
 simp only[go_sem,seval,c58,W52 h2]<;>rfl
def qwm (a0:Option (List (List UInt8)))(s0:TI×Int×Bool):Option ((TI×Int×Bool)⊕((TI×Bool×Int))):=
 cond (decide (s0.2.1<((a0.getD []).length:Int)))
  (jy (zz (a0.getD []) s0.2.1) fun v18=>
  jy (qys v18) fun v20=>
  cond s0.2.2
   (jy (apO s0.1 [v20]) fun v23=>
   some (.inl (v23,j8 .i64 (s0.2.1+1),true)))
   (cond s0.1.isNone
    (jy (apO s0.1 [v20]) fun v26=>
    some (.inl (v26,j8 .i64 (s0.2.1+1),true)))
    (none)))
  (some (.inr (s0.1,s0.2.2,s0.2.1)))
def qok (a0:Option (List (List UInt8)))(s0:TI×Int×Bool):qg:=⟨[(1,.fn (.func 55) [] [],false),(5,sl 1 yb s0.1,s0.2.2),(8,sl 1 yc a0,false),(9,Lv a0,false),(10,Iv s0.2.1,false)],[]⟩
def qya (a0:Option (List (List UInt8)))(d:(TI×Bool×Int)):qn×qg:=(.exit 0,⟨[(1,.fn (.func 55) [] [],false),(5,sl 1 yb d.1,d.2.1),(8,sl 1 yc a0,false),(9,Lv a0,false),(10,Iv d.2.2,false),(11,.bool false,false)],[]⟩)
theorem jyo (a0:Option (List (List UInt8)))(s0:TI×Int×Bool)(r)(h:qwm a0 s0=some r):y6 pr qs7 (qok a0) (qya a0) s0 r:=by
 unfold qwm at h
 rcases jx h with⟨h17,h⟩|⟨h17,h⟩
 ·obtain⟨v18,h19,h⟩:=jw h
  obtain⟨v20,h21,h⟩:=jw h
  have wh21:zj pr (X pr) 55 [.str v18] []=some (Iv v20,false,[]):=j39 [] h21
  rcases jx h with⟨h22,h⟩|⟨h22,h⟩
  ·obtain⟨v23,h24,h⟩:=jw h
   cases h
   exact zq (by simp only[go_sem,seval,qs7,qok,h17,jz h19,wh21,h22,qwe h24]<;>rfl)
  rcases jx h with⟨h25,h⟩|⟨h25,h⟩
  ·obtain⟨v26,h27,h⟩:=jw h
   cases h
   exact zq (by simp only[go_sem,seval,qs7,qok,h17,jz h19,wh21,h22,h25,qwl h27 h25]<;>rfl)
  cases h
 cases h
 exact zd (by simp only[go_sem,seval,qs7,qok,h17,qya]<;>rfl)
theorem jss (a0:Option (List (List UInt8))){s0:TI×Int×Bool}{d}(h:itO (qwm a0) s0=some d):X pr (.loop qs7) (qok a0 s0)=some (qya a0 d):=km (jyo a0) (fun d hh=>by cases hh) h
def f54 (a0:Option (List (List UInt8))):Option (TI×Bool):=
 jy (itO (qwm a0) (none,0,false)) fun d28=>
 some (d28.1,d28.2.1)
theorem W54 {a0:Option (List (List UInt8))}{r}(h:f54 a0=some r):j6 pr (X pr) 54 [sl 1 yc a0,.fn (.func 55) [] []]=some (sl 1 yb r.1,r.2):=by
 unfold f54 at h
 obtain⟨d28,h29,h⟩:=jw h
 have wh29:=jss a0 h29
 dsimp only[qok,qya,qd8]at wh29
 obtain rfl:=oi h
 refine ki c54 ?_
 simp only[go_sem,seval,c54,wh29]
 exact⟨_,rfl⟩
def qv2 (a0:TI)(s0:TI×Int×Bool):Option ((TI×Int×Bool)⊕((TI×Bool×Int))):=
 cond (decide (s0.2.1<((a0.getD []).length:Int)))
  (jy (zz (a0.getD []) s0.2.1) fun v18=>
  jy (qzp v18) fun v20=>
  cond s0.2.2
   (jy (apO s0.1 [v20]) fun v23=>
   some (.inl (v23,j8 .i64 (s0.2.1+1),true)))
   (cond s0.1.isNone
    (jy (apO s0.1 [v20]) fun v26=>
    some (.inl (v26,j8 .i64 (s0.2.1+1),true)))
    (none)))
  (some (.inr (s0.1,s0.2.2,s0.2.1)))
def qpf (a0:TI)(s0:TI×Int×Bool):qg:=⟨[(1,.fn (.func 58) [] [],false),(5,sl 1 yb s0.1,s0.2.2),(8,sl 1 yb a0,false),(9,Lv a0,false),(10,Iv s0.2.1,false)],[]⟩
def qxo (a0:TI)(d:(TI×Bool×Int)):qn×qg:=(.exit 0,⟨[(1,.fn (.func 58) [] [],false),(5,sl 1 yb d.1,d.2.1),(8,sl 1 yb a0,false),(9,Lv a0,false),(10,Iv d.2.2,false),(11,.bool false,false)],[]⟩)
theorem jqy (a0:TI)(s0:TI×Int×Bool)(r)(h:qv2 a0 s0=some r):y6 pr qub (qpf a0) (qxo a0) s0 r:=by
 unfold qv2 at h
 rcases jx h with⟨h17,h⟩|⟨h17,h⟩
 ·obtain⟨v18,h19,h⟩:=jw h
  obtain⟨v20,h21,h⟩:=jw h
  have wh21:zj pr (X pr) 58 [Iv v18] []=some (Iv v20,false,[]):=j8e [] h21
  rcases jx h with⟨h22,h⟩|⟨h22,h⟩
  ·obtain⟨v23,h24,h⟩:=jw h
   cases h
   exact zq (by simp only[go_sem,seval,qub,qpf,h17,jz h19,wh21,h22,qwe h24]<;>rfl)
  rcases jx h with⟨h25,h⟩|⟨h25,h⟩
  ·obtain⟨v26,h27,h⟩:=jw h
   cases h
   exact zq (by simp only[go_sem,seval,qub,qpf,h17,jz h19,wh21,h22,h25,qwl h27 h25]<;>rfl)
  cases h
 cases h
 exact zd (by simp only[go_sem,seval,qub,qpf,h17,qxo]<;>rfl)
theorem jzy (a0:TI){s0:TI×Int×Bool}{d}(h:itO (qv2 a0) s0=some d):X pr (.loop qub) (qpf a0 s0)=some (qxo a0 d):=km (jqy a0) (fun d hh=>by cases hh) h
def f57 (a0:TI):Option (TI×Bool):=
 jy (itO (qv2 a0) (none,0,false)) fun d28=>
 some (d28.1,d28.2.1)
theorem W57 {a0:TI}{r}(h:f57 a0=some r):j6 pr (X pr) 57 [sl 1 yb a0,.fn (.func 58) [] []]=some (sl 1 yb r.1,r.2):=by
 unfold f57 at h
 obtain⟨d28,h29,h⟩:=jw h
 have wh29:=jzy a0 h29
 dsimp only[qpf,qxo,qd8]at wh29
 obtain rfl:=oi h
 refine ki c57 ?_
 simp only[go_sem,seval,c57,wh29]
 exact⟨_,rfl⟩
def f122 (a0:Option (List (List UInt8))):Option ((Option (List (List UInt8)))×Bool):=
 cond a0.isNone
  (some (none,false))
  (jy (apO (some []) (a0.getD [])) fun v2=>
  some (v2,true))
theorem j5j {a0:Option (List (List UInt8))}{r}(h:f122 a0=some r):j6 pr (X pr) 122 [sl 1 yc a0]=some (sl 1 yc r.1,r.2):=by
 unfold f122 at h
 rcases jx h with⟨h1,h⟩|⟨h1,h⟩
 ·obtain rfl:=oi h
  refine ki c122 ?_
  simp only[go_sem,seval,c122,h1]
  exact⟨_,rfl⟩
 obtain⟨v2,h3,h⟩:=jw h
 obtain rfl:=oi h
 refine ki c122 ?_
 simp only[go_sem,seval,c122,h1,qa9 h3]
 exact⟨_,rfl⟩
def f123 (a0:TI):Option (TI×Bool):=
 cond a0.isNone
  (some (none,false))
  (jy (apO (some []) (a0.getD [])) fun v2=>
  some (v2,true))
theorem j51 {a0:TI}{r}(h:f123 a0=some r):j6 pr (X pr) 123 [sl 1 yb a0]=some (sl 1 yb r.1,r.2):=by
 unfold f123 at h
 rcases jx h with⟨h1,h⟩|⟨h1,h⟩
 ·obtain rfl:=oi h
  refine ki c123 ?_
  simp only[go_sem,seval,c123,h1]
  exact⟨_,rfl⟩
 obtain⟨v2,h3,h⟩:=jw h
 obtain rfl:=oi h
 refine ki c123 ?_
 simp only[go_sem,seval,c123,h1,qa9 h3]
 exact⟨_,rfl⟩
def f66 (a0:ql):Option ql:=
 jy (f122 a0.names) fun v1=>
 jy (f123 a0.values) fun v3=>
 cond v1.2
  (cond v3.2
   (some (⟨a0.number,a0.kind,v1.1,v3.1,a0.text⟩))
   (some (⟨a0.number,a0.kind,v1.1,v3.1,a0.text⟩)))
  (cond v3.2
   (some (⟨a0.number,a0.kind,v1.1,v3.1,a0.text⟩))
   (some (⟨a0.number,a0.kind,v1.1,v3.1,a0.text⟩)))
theorem W66 {a0:ql}{r}(h:f66 a0=some r):j6 pr (X pr) 66 [.agg [Iv a0.number,.str a0.kind,sl 1 yc a0.names,sl 1 yb a0.values,.str a0.text]]=some (.agg [Iv r.number,.str r.kind,sl 1 yc r.names,sl 1 yb r.values,.str r.text],false):=by
 unfold f66 at h
 obtain⟨v1,h2,h⟩:=jw h
 have wh2:=j5j h2
 obtain⟨v3,h4,h⟩:=jw h
 have wh4:=j51 h4
 rcases jx h with⟨h5,h⟩|⟨h5,h⟩
 ·rcases jx h with⟨h6,h⟩|⟨h6,h⟩
  ·obtain rfl:=oi h
   refine zk c66 ?_
   simp only[go_sem,seval,c66,wh2,wh4,h5,h6]
   exact⟨_,rfl⟩
  obtain rfl:=oi h
  refine zk c66 ?_
  simp only[go_sem,seval,c66,wh2,wh4,h5,h6]
  exact⟨_,rfl⟩
 rcases jx h with⟨h7,h⟩|⟨h7,h⟩
 ·obtain rfl:=oi h
  refine zk c66 ?_
  simp only[go_sem,seval,c66,wh2,wh4,h5,h7]
  exact⟨_,rfl⟩
 obtain rfl:=oi h
 refine zk c66 ?_
 simp only[go_sem,seval,c66,wh2,wh4,h5,h7]
 exact⟨_,rfl⟩
end Go.Z
end
