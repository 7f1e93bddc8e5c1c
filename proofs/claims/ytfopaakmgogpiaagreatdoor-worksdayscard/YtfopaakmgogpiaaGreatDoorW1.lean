/- Chapter 10. -/
import Derived.Test.YtfopaakmgogpiaaGreatDoorCA
set_option maxRecDepth 100000
set_option maxHeartbeats 4000000
noncomputable section
open Option renaming some→I,none→E2
open Bool renaming false→En,true→E1
namespace Go.Z
open Go Go.Abs Go.W
def f53 (a0:Bool)(a1:Int):Option Int:=
 cond a0
  (I a1)
  (I 0)
theorem gp {a0:Bool}{a1:Int}{r}(h:f53 a0 a1=I r):jz pr (X pr) 53 [.bool a0,Iv a1]=I (Iv r,En):=by
 unfold f53 at h
 refine y7 H9 ?_
 repeat' first|(replace h:=j6 h;rcases h with⟨g,h⟩|⟨g,h⟩)|fail
 all_goals (cases h<;>(simp only[go_sem,seval,H9, *];exact⟨_,rfl⟩))
def Am (a0:Option (List Int))(s0:Int):Option (Int⊕(Int⊕Int)):=
 cond (decide (s0<((a0.getD []).length:Int)))
  (jx (zp (a0.getD []) s0) fun v10=>
  cond (decide (v10=0))
   (I (.inl (j9 .i64 (s0+1))))
   (I (.inr (.inl v10))))
  (I (.inr (.inr s0)))
def Ia (a0:Option (List Int))(s0:Int):qg:=⟨[(5,sl 1 kw a0,En),(6,Lv a0,En),(7,Iv s0,En)],[]⟩
def Ib (a0:Option (List Int)):Int⊕Int→qo×qg
 | .inl d=>(.ret,⟨[(2,Iv d,En)],[]⟩)
 | .inr d=>(.exit 0,⟨[(5,sl 1 kw a0,En),(6,Lv a0,En),(7,Iv d,En),(8,.bool En,En)],[]⟩)
theorem jx1 (a0:Option (List Int))(s0:Int)(r)(h:Am a0 s0=I r):yo pr Ic (Ia a0) (Ib a0) s0 r:=by
 unfold Am at h
 repeat' first|(replace h:=jy h;obtain⟨d,g,h⟩:=h)|(replace h:=j6 h;rcases h with⟨g,h⟩|⟨g,h⟩)|fail
 all_goals (cases h<;>(first|(refine zy ?_;simp only[go_sem,seval,Ic,Ia,zn,Ib, *]<;>rfl)|(refine yh ?_;simp only[go_sem,seval,Ic,Ia,zn,Ib, *]<;>rfl)))
theorem j43 (a0:Option (List Int)){s0:Int}{d}(h:bf (Am a0) s0=I d):X pr (.loop Ic) (Ia a0 s0)=I (Ib a0 d):=yz (jx1 a0) (fun d=>by rcases d with d|d<;>(intro hh;cases hh)) h
def f51 (a0:Option (List Int)):Option Int:=
 jx (bf (Am a0) 0) fun d13=>match d13 with
  | .inl d15=>
   I d15
  | .inr d16=>
   I 0
theorem l5 {a0:Option (List Int)}{r}(h:f51 a0=I r):jz pr (X pr) 51 [sl 1 kw a0]=I (Iv r,En):=by
 unfold f51 at h
 refine y7 Ie ?_
 repeat' first|(replace h:=jy h;obtain⟨d,g,h⟩:=h;with_reducible first|(replace g:=j43 a0 g;rcases d with d|d<;>dsimp only[Ia,Ib,y8]at g h)|skip)|(replace h:=j6 h;rcases h with⟨g,h⟩|⟨g,h⟩)|fail
 all_goals (cases h<;>(simp only[go_sem,seval,Ie, *];exact⟨_,rfl⟩))
def f52 (a0:Int)(a1:Int)(a2:Int):Option Int:=
 cond (decide (a0<a1))
  (jx (f53 E1 3) fun v2=>
  I v2)
  (jx (f53 (decide (a2<a0)) 3) fun v4=>
  I v4)
theorem Ig {a0:Int}{a1:Int}{a2:Int}{r}(h:f52 a0 a1 a2=I r):jz pr (X pr) 52 [Iv a0,Iv a1,Iv a2]=I (Iv r,En):=by
 unfold f52 at h
 refine y7 Ih ?_
 repeat' first|(replace h:=jy h;obtain⟨d,g,h⟩:=h;with_reducible first|replace g:=gp g|skip)|(replace h:=j6 h;rcases h with⟨g,h⟩|⟨g,h⟩)|fail
 all_goals (cases h<;>(simp only[go_sem,seval,Ih, *];exact⟨_,rfl⟩))
def xE (a0:List UInt8)(s0:Int):Option (Int⊕(Unit⊕Int)):=
 cond (decide (s0<(a0.length:Int)))
  (jx (zp a0 s0) fun v70=>
  cond (decide (65≤(v70.toNat:Int)))
   (cond (decide ((v70.toNat:Int)≤90))
    (cond (decide (48≤(v70.toNat:Int)))
     (cond (decide ((v70.toNat:Int)≤57))
      (I (.inl (j9 .i64 (s0+1))))
      (I (.inl (j9 .i64 (s0+1)))))
     (I (.inl (j9 .i64 (s0+1)))))
    (cond (decide (97≤(v70.toNat:Int)))
     (cond (decide (48≤(v70.toNat:Int)))
      (cond (decide ((v70.toNat:Int)≤57))
       (cond (decide ((v70.toNat:Int)≤122))
        (I (.inl (j9 .i64 (s0+1))))
        (cond (decide (s0=0))
         (I (.inr (.inl ())))
         (I (.inl (j9 .i64 (s0+1))))))
       (cond (decide ((v70.toNat:Int)≤122))
        (I (.inl (j9 .i64 (s0+1))))
        (cond (decide (s0=0))
         (I (.inr (.inl ())))
         (cond (decide ((v70.toNat:Int)=95))
          (I (.inl (j9 .i64 (s0+1))))
          (I (.inr (.inl ())))))))
      (cond (decide ((v70.toNat:Int)≤122))
       (I (.inl (j9 .i64 (s0+1))))
       (cond (decide (s0=0))
        (I (.inr (.inl ())))
        (cond (decide ((v70.toNat:Int)=95))
         (I (.inl (j9 .i64 (s0+1))))
         (I (.inr (.inl ())))))))
     (cond (decide (48≤(v70.toNat:Int)))
      (cond (decide ((v70.toNat:Int)≤57))
       (cond (decide (s0=0))
        (I (.inr (.inl ())))
        (I (.inl (j9 .i64 (s0+1)))))
       (cond (decide (s0=0))
        (I (.inr (.inl ())))
        (cond (decide ((v70.toNat:Int)=95))
         (I (.inl (j9 .i64 (s0+1))))
         (I (.inr (.inl ()))))))
      (cond (decide (s0=0))
       (I (.inr (.inl ())))
       (cond (decide ((v70.toNat:Int)=95))
        (I (.inl (j9 .i64 (s0+1))))
        (I (.inr (.inl ()))))))))
   (cond (decide (97≤(v70.toNat:Int)))
    (cond (decide (48≤(v70.toNat:Int)))
     (cond (decide ((v70.toNat:Int)≤57))
      (cond (decide ((v70.toNat:Int)≤122))
       (I (.inl (j9 .i64 (s0+1))))
       (cond (decide (s0=0))
        (I (.inr (.inl ())))
        (I (.inl (j9 .i64 (s0+1))))))
      (cond (decide ((v70.toNat:Int)≤122))
       (I (.inl (j9 .i64 (s0+1))))
       (cond (decide (s0=0))
        (I (.inr (.inl ())))
        (cond (decide ((v70.toNat:Int)=95))
         (I (.inl (j9 .i64 (s0+1))))
         (I (.inr (.inl ())))))))
     (cond (decide ((v70.toNat:Int)≤122))
      (I (.inl (j9 .i64 (s0+1))))
      (cond (decide (s0=0))
       (I (.inr (.inl ())))
       (cond (decide ((v70.toNat:Int)=95))
        (I (.inl (j9 .i64 (s0+1))))
        (I (.inr (.inl ())))))))
    (cond (decide (48≤(v70.toNat:Int)))
     (cond (decide ((v70.toNat:Int)≤57))
      (cond (decide (s0=0))
       (I (.inr (.inl ())))
       (I (.inl (j9 .i64 (s0+1)))))
      (cond (decide (s0=0))
       (I (.inr (.inl ())))
       (cond (decide ((v70.toNat:Int)=95))
        (I (.inl (j9 .i64 (s0+1))))
        (I (.inr (.inl ()))))))
     (cond (decide (s0=0))
      (I (.inr (.inl ())))
      (cond (decide ((v70.toNat:Int)=95))
       (I (.inl (j9 .i64 (s0+1))))
       (I (.inr (.inl ()))))))))
  (I (.inr (.inr s0)))
def Ii (a0:List UInt8)(s0:Int):qg:=⟨[(0,.str a0,En),(3,Iv s0,En)],[]⟩
def Ij (a0:List UInt8):Unit⊕Int→qo×qg
 | .inl d=>(.ret,⟨[(2,.bool En,En)],[]⟩)
 | .inr d=>(.exit 0,⟨[(0,.str a0,En),(3,Iv d,En),(17,.bool En,En)],[]⟩)
theorem j6k (a0:List UInt8)(s0:Int)(r)(h:xE a0 s0=I r):yo pr Ik (Ii a0) (Ij a0) s0 r:=by
 unfold xE at h
 repeat' first|(replace h:=jy h;obtain⟨d,g,h⟩:=h)|(replace h:=j6 h;rcases h with⟨g,h⟩|⟨g,h⟩)|fail
 all_goals (cases h<;>(first|(refine zy ?_;simp only[go_sem,seval,Ik,Ii,q26,Ij, *]<;>rfl)|(refine yh ?_;simp only[go_sem,seval,Ik,Ii,q26,Ij, *]<;>rfl)))
theorem j18 (a0:List UInt8){s0:Int}{d}(h:bf (xE a0) s0=I d):X pr (.loop Ik) (Ii a0 s0)=I (Ij a0 d):=yz (j6k a0) (fun d=>by rcases d with d|d<;>(intro hh;cases hh)) h
def f26 (a0:List UInt8):Option Bool:=
 cond (decide ((a0.length:Int)=0))
  (I En)
  (cond (decide (24<(a0.length:Int)))
   (I En)
   (jx (bf (xE a0) 0) fun d112=>match d112 with
    | .inl d114=>
     I En
    | .inr d115=>
     I E1))
theorem W26 {a0:List UInt8}{r}(h:f26 a0=I r):jz pr (X pr) 26 [.str a0]=I (.bool r,En):=by
 unfold f26 at h
 refine y7 NW ?_
 repeat' first|(replace h:=jy h;obtain⟨d,g,h⟩:=h;with_reducible first|(replace g:=j18 a0 g;rcases d with d|d<;>dsimp only[Ii,Ij,y8]at g h)|skip)|(replace h:=j6 h;rcases h with⟨g,h⟩|⟨g,h⟩)|fail
 all_goals (cases h<;>(simp only[go_sem,seval,NW, *];exact⟨_,rfl⟩))
def xF (a0:List UInt8):Option (Option (Nat)⊕(Nat⊕Nat)):=
 cond (decide (0<a0.length))
  (cond (decide (65≤((zf a0 0).1:Int)))
   (cond (decide (((zf a0 0).1:Int)≤90))
    (cond (decide (48≤((zf a0 0).1:Int)))
     (cond (decide (((zf a0 0).1:Int)≤57))
      (I (.inl (I (0+(zf a0 0).2))))
      (I (.inl (I (0+(zf a0 0).2)))))
     (I (.inl (I (0+(zf a0 0).2)))))
    (cond (decide (97≤((zf a0 0).1:Int)))
     (cond (decide (48≤((zf a0 0).1:Int)))
      (cond (decide (((zf a0 0).1:Int)≤57))
       (cond (decide (((zf a0 0).1:Int)≤122))
        (I (.inl (I (0+(zf a0 0).2))))
        (I (.inr (.inl (0+(zf a0 0).2)))))
       (cond (decide (((zf a0 0).1:Int)≤122))
        (I (.inl (I (0+(zf a0 0).2))))
        (I (.inr (.inl (0+(zf a0 0).2))))))
      (cond (decide (((zf a0 0).1:Int)≤122))
       (I (.inl (I (0+(zf a0 0).2))))
       (I (.inr (.inl (0+(zf a0 0).2))))))
     (cond (decide (48≤((zf a0 0).1:Int)))
      (cond (decide (((zf a0 0).1:Int)≤57))
       (I (.inr (.inl (0+(zf a0 0).2))))
       (I (.inr (.inl (0+(zf a0 0).2)))))
      (I (.inr (.inl (0+(zf a0 0).2)))))))
   (cond (decide (97≤((zf a0 0).1:Int)))
    (cond (decide (48≤((zf a0 0).1:Int)))
     (cond (decide (((zf a0 0).1:Int)≤57))
      (cond (decide (((zf a0 0).1:Int)≤122))
       (I (.inl (I (0+(zf a0 0).2))))
       (I (.inr (.inl (0+(zf a0 0).2)))))
      (cond (decide (((zf a0 0).1:Int)≤122))
       (I (.inl (I (0+(zf a0 0).2))))
       (I (.inr (.inl (0+(zf a0 0).2))))))
     (cond (decide (((zf a0 0).1:Int)≤122))
      (I (.inl (I (0+(zf a0 0).2))))
      (I (.inr (.inl (0+(zf a0 0).2))))))
    (cond (decide (48≤((zf a0 0).1:Int)))
     (cond (decide (((zf a0 0).1:Int)≤57))
      (I (.inr (.inl (0+(zf a0 0).2))))
      (I (.inr (.inl (0+(zf a0 0).2)))))
     (I (.inr (.inl (0+(zf a0 0).2)))))))
  (I (.inr (.inr 0)))
def xG (a0:List UInt8)(s0:Nat):Option (Option (Nat)⊕(Nat⊕Nat)):=
 cond (decide (s0<a0.length))
  (cond (decide (65≤((zf a0 s0).1:Int)))
   (cond (decide (((zf a0 s0).1:Int)≤90))
    (cond (decide (48≤((zf a0 s0).1:Int)))
     (cond (decide (((zf a0 s0).1:Int)≤57))
      (I (.inl (I (s0+(zf a0 s0).2))))
      (I (.inl (I (s0+(zf a0 s0).2)))))
     (I (.inl (I (s0+(zf a0 s0).2)))))
    (cond (decide (97≤((zf a0 s0).1:Int)))
     (cond (decide (48≤((zf a0 s0).1:Int)))
      (cond (decide (((zf a0 s0).1:Int)≤57))
       (cond (decide (((zf a0 s0).1:Int)≤122))
        (I (.inl (I (s0+(zf a0 s0).2))))
        (cond (decide ((s0:Int)=0))
         (I (.inr (.inl (s0+(zf a0 s0).2))))
         (I (.inl (I (s0+(zf a0 s0).2))))))
       (cond (decide (((zf a0 s0).1:Int)≤122))
        (I (.inl (I (s0+(zf a0 s0).2))))
        (cond (decide ((s0:Int)=0))
         (I (.inr (.inl (s0+(zf a0 s0).2))))
         (cond (decide (((zf a0 s0).1:Int)=95))
          (I (.inl (I (s0+(zf a0 s0).2))))
          (I (.inr (.inl (s0+(zf a0 s0).2))))))))
      (cond (decide (((zf a0 s0).1:Int)≤122))
       (I (.inl (I (s0+(zf a0 s0).2))))
       (cond (decide ((s0:Int)=0))
        (I (.inr (.inl (s0+(zf a0 s0).2))))
        (cond (decide (((zf a0 s0).1:Int)=95))
         (I (.inl (I (s0+(zf a0 s0).2))))
         (I (.inr (.inl (s0+(zf a0 s0).2))))))))
     (cond (decide (48≤((zf a0 s0).1:Int)))
      (cond (decide (((zf a0 s0).1:Int)≤57))
       (cond (decide ((s0:Int)=0))
        (I (.inr (.inl (s0+(zf a0 s0).2))))
        (I (.inl (I (s0+(zf a0 s0).2)))))
       (cond (decide ((s0:Int)=0))
        (I (.inr (.inl (s0+(zf a0 s0).2))))
        (cond (decide (((zf a0 s0).1:Int)=95))
         (I (.inl (I (s0+(zf a0 s0).2))))
         (I (.inr (.inl (s0+(zf a0 s0).2)))))))
      (cond (decide ((s0:Int)=0))
       (I (.inr (.inl (s0+(zf a0 s0).2))))
       (cond (decide (((zf a0 s0).1:Int)=95))
        (I (.inl (I (s0+(zf a0 s0).2))))
        (I (.inr (.inl (s0+(zf a0 s0).2)))))))))
   (cond (decide (97≤((zf a0 s0).1:Int)))
    (cond (decide (48≤((zf a0 s0).1:Int)))
     (cond (decide (((zf a0 s0).1:Int)≤57))
      (cond (decide (((zf a0 s0).1:Int)≤122))
       (I (.inl (I (s0+(zf a0 s0).2))))
       (cond (decide ((s0:Int)=0))
        (I (.inr (.inl (s0+(zf a0 s0).2))))
        (I (.inl (I (s0+(zf a0 s0).2))))))
      (cond (decide (((zf a0 s0).1:Int)≤122))
       (I (.inl (I (s0+(zf a0 s0).2))))
       (cond (decide ((s0:Int)=0))
        (I (.inr (.inl (s0+(zf a0 s0).2))))
        (cond (decide (((zf a0 s0).1:Int)=95))
         (I (.inl (I (s0+(zf a0 s0).2))))
         (I (.inr (.inl (s0+(zf a0 s0).2))))))))
     (cond (decide (((zf a0 s0).1:Int)≤122))
      (I (.inl (I (s0+(zf a0 s0).2))))
      (cond (decide ((s0:Int)=0))
       (I (.inr (.inl (s0+(zf a0 s0).2))))
       (cond (decide (((zf a0 s0).1:Int)=95))
        (I (.inl (I (s0+(zf a0 s0).2))))
        (I (.inr (.inl (s0+(zf a0 s0).2))))))))
    (cond (decide (48≤((zf a0 s0).1:Int)))
     (cond (decide (((zf a0 s0).1:Int)≤57))
      (cond (decide ((s0:Int)=0))
       (I (.inr (.inl (s0+(zf a0 s0).2))))
       (I (.inl (I (s0+(zf a0 s0).2)))))
      (cond (decide ((s0:Int)=0))
       (I (.inr (.inl (s0+(zf a0 s0).2))))
       (cond (decide (((zf a0 s0).1:Int)=95))
        (I (.inl (I (s0+(zf a0 s0).2))))
        (I (.inr (.inl (s0+(zf a0 s0).2)))))))
     (cond (decide ((s0:Int)=0))
      (I (.inr (.inl (s0+(zf a0 s0).2))))
      (cond (decide (((zf a0 s0).1:Int)=95))
       (I (.inl (I (s0+(zf a0 s0).2))))
       (I (.inr (.inl (s0+(zf a0 s0).2)))))))))
  (I (.inr (.inr s0)))
def G5 (a0:List UInt8):Option (Nat)→Option (Option (Nat)⊕(Nat⊕Nat))
 |none=>xF a0
 |some x=>xG a0 x
def Il (a0:List UInt8)(s0:Nat):qg:=⟨[(0,.str a0,En),(8,.ptr 0 0,En),(46,.bool En,En)],[.iter a0 s0]⟩
def vR (a0:List UInt8):Option (Nat)→qg
 |none=>⟨[(0,.str a0,En),(8,.ptr 0 0,En)],[.iter a0 0]⟩
 |some x=>Il a0 x
def vS (a0:List UInt8):Nat⊕Nat→qo×qg
 | .inl d=>(.ret,⟨[(2,.bool En,En)],[.iter a0 d]⟩)
 | .inr d=>(.exit 0,⟨[(0,.str a0,En),(8,.ptr 0 0,En),(9,.aC [.bool En],En),(10,.bool En,En)],[.iter a0 d]⟩)
theorem juz (a0:List UInt8)(r)(h:xF a0=I r):yo pr vT (vR a0) (vS a0) E2 r:=by
 unfold xF at h
 repeat' first|(replace h:=j6 h;rcases h with⟨g,h⟩|⟨g,h⟩)|fail
 all_goals (cases h<;>(first|(refine zy ?_;simp only[go_sem,seval,vT,vR,Il,xe,vS, *]<;>rfl)|(refine yh ?_;simp only[go_sem,seval,vT,vR,Il,xe,vS, *]<;>rfl)))
theorem jph (a0:List UInt8)(s0:Nat)(r)(h:xG a0 s0=I r):yo pr vT (vR a0) (vS a0) (I s0) r:=by
 unfold xG at h
 repeat' first|(replace h:=j6 h;rcases h with⟨g,h⟩|⟨g,h⟩)|fail
 all_goals (cases h<;>(first|(refine zy ?_;simp only[go_sem,seval,vT,vR,Il,xe,vS, *]<;>rfl)|(refine yh ?_;simp only[go_sem,seval,vT,vR,Il,xe,vS, *]<;>rfl)))
theorem j4q (a0:List UInt8):∀(x:Option (Nat)) (r) (h:G5 a0 x=I r),yo pr vT (vR a0) (vS a0) x r
 |none,r,h=>juz a0 r h
 |some x,r,h=>jph a0 x r h
theorem j4v (a0:List UInt8){s0:Option (Nat)}{d}(h:bf (G5 a0) s0=I d):X pr (.loop vT) (vR a0 s0)=I (vS a0 d):=yz (j4q a0) (fun d=>by rcases d with d|d<;>(intro hh;cases hh)) h
def f56 (a0:List UInt8):Option Bool:=
 jx (bf (G5 a0) E2) fun d192=>match d192 with
  | .inl d194=>
   I En
  | .inr d195=>
   cond (decide (a0=[]))
    (I En)
    (I (decide ((a0.length:Int)≤24)))
theorem W56 {a0:List UInt8}{r}(h:f56 a0=I r):jz pr (X pr) 56 [.str a0]=I (.bool r,En):=by
 unfold f56 at h
 refine y7 Io ?_
 repeat' first|(replace h:=jy h;obtain⟨d,g,h⟩:=h;with_reducible first|(replace g:=j4v a0 g;rcases d with d|d<;>dsimp only[vR,vS,y8]at g h)|skip)|(replace h:=j6 h;rcases h with⟨g,h⟩|⟨g,h⟩)|fail
 all_goals (cases h<;>(simp only[go_sem,seval,Io, *];exact⟨_,rfl⟩))
end Go.Z
namespace Go.Z
open Go Go.Abs Go.W
def D0 (a0:List UInt8):Option Int:=
 jx (f56 a0) fun v1=>
 jx (f53 (!v1) 8) fun v3=>
 I v3
theorem zgz (hp:j8){a0:List UInt8}{r}(h:D0 a0=I r):zg pr (X pr) 55 [.str a0] hp=I (Iv r,En,hp):=by
 unfold D0 at h
 obtain⟨v1,h2,h⟩:=jy h
 have rH:jz pr (X pr) 56 [.str a0]=I (.bool v1,En):=W56 h2
 obtain⟨v3,h4,h⟩:=jy h
 have A1:jz pr (X pr) 53 [.bool (!v1),Iv 8]=I (Iv v3,En):=gp h4
 have hr:v3=r:=I.inj h
 subst hr
 rw[zh (show pr.bL 55=I Ip from rfl) (by simp)]
 simp only[go_sem,seval,Ip,rH,A1]<;>rfl
def D1 (a0:Int):Option Int:=
 jx (f52 a0 0 999999999) fun v1=>
 I v1
theorem zam (hp:j8){a0:Int}{r}(h:D1 a0=I r):zg pr (X pr) 58 [Iv a0] hp=I (Iv r,En,hp):=by
 unfold D1 at h
 obtain⟨v1,h2,h⟩:=jy h
 have rH:jz pr (X pr) 52 [Iv a0,Iv 0,Iv 999999999]=I (Iv v1,En):=Ig h2
 have hr:v1=r:=I.inj h
 subst hr
 rw[zh (show pr.bL 58=I Iq from rfl) (by simp)]
 simp only[go_sem,seval,Iq,rH]<;>rfl
def G6 (a0:Option (List (List UInt8)))(s0:(Option (List Int))×Int×Bool):Option (((Option (List Int))×Int×Bool)⊕(((Option (List Int))×Bool×Int))):=
 cond (decide (s0.2.1<((a0.getD []).length:Int)))
  (jx (zp (a0.getD []) s0.2.1) fun gq=>
  jx (D0 gq) fun v20=>
  cond s0.2.2
   (jx (bg s0.1 [v20]) fun kC=>
   I (.inl (kC,j9 .i64 (s0.2.1+1),E1)))
   (cond s0.1.isNone
    (jx (bg s0.1 [v20]) fun eI=>
    I (.inl (eI,j9 .i64 (s0.2.1+1),E1)))
    (E2)))
  (I (.inr (s0.1,s0.2.2,s0.2.1)))
def Ir (a0:Option (List (List UInt8)))(s0:(Option (List Int))×Int×Bool):qg:=⟨[(1,.fn (.func 55) [] [],En),(5,sl 1 kw s0.1,s0.2.2),(8,sl 1 qag a0,En),(9,Lv a0,En),(10,Iv s0.2.1,En)],[]⟩
def Iu (a0:Option (List (List UInt8)))(d:((Option (List Int))×Bool×Int)):qo×qg:=(.exit 0,⟨[(1,.fn (.func 55) [] [],En),(5,sl 1 kw d.1,d.2.1),(8,sl 1 qag a0,En),(9,Lv a0,En),(10,Iv d.2.2,En),(11,.bool En,En)],[]⟩)
theorem j2z (a0:Option (List (List UInt8)))(s0:(Option (List Int))×Int×Bool)(r)(h:G6 a0 s0=I r):yo pr Iw (Ir a0) (Iu a0) s0 r:=by
 unfold G6 at h
 repeat' first|(replace h:=jy h;obtain⟨d,g,h⟩:=h;with_reducible first|replace g:=zgz [] g|replace g:=q62 g|skip)|(replace h:=j6 h;rcases h with⟨g,h⟩|⟨g,h⟩)|fail
 all_goals (cases h<;>(first|(refine zy ?_;simp only[go_sem,seval,Iw,Ir,zn,Iu, *]<;>rfl)|(refine yh ?_;simp only[go_sem,seval,Iw,Ir,zn,Iu, *]<;>rfl)))
theorem j1s (a0:Option (List (List UInt8))){s0:(Option (List Int))×Int×Bool}{d}(h:bf (G6 a0) s0=I d):X pr (.loop Iw) (Ir a0 s0)=I (Iu a0 d):=yz (j2z a0) (fun d hh=>by cases hh) h
def f54 (a0:Option (List (List UInt8))):Option ((Option (List Int))×Bool):=
 jx (bf (G6 a0) (E2,0,En)) fun d28=>
 I (d28.1,d28.2.1)
theorem W54 {a0:Option (List (List UInt8))}{r}(h:f54 a0=I r):jz pr (X pr) 54 [sl 1 qag a0,.fn (.func 55) [] []]=I (sl 1 kw r.1,r.2):=by
 unfold f54 at h
 refine eU Ix ?_
 repeat' first|(replace h:=jy h;obtain⟨d,g,h⟩:=h;with_reducible first|(replace g:=j1s a0 g;dsimp only[Ir,Iu,y8]at g h)|skip)|(replace h:=j6 h;rcases h with⟨g,h⟩|⟨g,h⟩)|fail
 all_goals (cases h<;>(simp only[go_sem,seval,Ix, *];exact⟨_,rfl⟩))
def G7 (a0:Option (List Int))(s0:(Option (List Int))×Int×Bool):Option (((Option (List Int))×Int×Bool)⊕(((Option (List Int))×Bool×Int))):=
 cond (decide (s0.2.1<((a0.getD []).length:Int)))
  (jx (zp (a0.getD []) s0.2.1) fun gq=>
  jx (D1 gq) fun v20=>
  cond s0.2.2
   (jx (bg s0.1 [v20]) fun kC=>
   I (.inl (kC,j9 .i64 (s0.2.1+1),E1)))
   (cond s0.1.isNone
    (jx (bg s0.1 [v20]) fun eI=>
    I (.inl (eI,j9 .i64 (s0.2.1+1),E1)))
    (E2)))
  (I (.inr (s0.1,s0.2.2,s0.2.1)))
def Iy (a0:Option (List Int))(s0:(Option (List Int))×Int×Bool):qg:=⟨[(1,.fn (.func 58) [] [],En),(5,sl 1 kw s0.1,s0.2.2),(8,sl 1 kw a0,En),(9,Lv a0,En),(10,Iv s0.2.1,En)],[]⟩
def Iz (a0:Option (List Int))(d:((Option (List Int))×Bool×Int)):qo×qg:=(.exit 0,⟨[(1,.fn (.func 58) [] [],En),(5,sl 1 kw d.1,d.2.1),(8,sl 1 kw a0,En),(9,Lv a0,En),(10,Iv d.2.2,En),(11,.bool En,En)],[]⟩)
theorem j4l (a0:Option (List Int))(s0:(Option (List Int))×Int×Bool)(r)(h:G7 a0 s0=I r):yo pr IA (Iy a0) (Iz a0) s0 r:=by
 unfold G7 at h
 repeat' first|(replace h:=jy h;obtain⟨d,g,h⟩:=h;with_reducible first|replace g:=zam [] g|replace g:=q62 g|skip)|(replace h:=j6 h;rcases h with⟨g,h⟩|⟨g,h⟩)|fail
 all_goals (cases h<;>(first|(refine zy ?_;simp only[go_sem,seval,IA,Iy,zn,Iz, *]<;>rfl)|(refine yh ?_;simp only[go_sem,seval,IA,Iy,zn,Iz, *]<;>rfl)))
theorem jws (a0:Option (List Int)){s0:(Option (List Int))×Int×Bool}{d}(h:bf (G7 a0) s0=I d):X pr (.loop IA) (Iy a0 s0)=I (Iz a0 d):=yz (j4l a0) (fun d hh=>by cases hh) h
def f57 (a0:Option (List Int)):Option ((Option (List Int))×Bool):=
 jx (bf (G7 a0) (E2,0,En)) fun d28=>
 I (d28.1,d28.2.1)
theorem W57 {a0:Option (List Int)}{r}(h:f57 a0=I r):jz pr (X pr) 57 [sl 1 kw a0,.fn (.func 58) [] []]=I (sl 1 kw r.1,r.2):=by
 unfold f57 at h
 refine eU IB ?_
 repeat' first|(replace h:=jy h;obtain⟨d,g,h⟩:=h;with_reducible first|(replace g:=jws a0 g;dsimp only[Iy,Iz,y8]at g h)|skip)|(replace h:=j6 h;rcases h with⟨g,h⟩|⟨g,h⟩)|fail
 all_goals (cases h<;>(simp only[go_sem,seval,IB, *];exact⟨_,rfl⟩))
def f122 (a0:Option (List (List UInt8))):Option ((Option (List (List UInt8)))×Bool):=
 cond a0.isNone
  (I (E2,En))
  (jx (bg (I []) (a0.getD [])) fun v2=>
  I (v2,E1))
theorem zer {a0:Option (List (List UInt8))}{r}(h:f122 a0=I r):jz pr (X pr) 122 [sl 1 qag a0]=I (sl 1 qag r.1,r.2):=by
 unfold f122 at h
 refine eU si ?_
 repeat' first|(replace h:=jy h;obtain⟨d,g,h⟩:=h)|(replace h:=j6 h;rcases h with⟨g,h⟩|⟨g,h⟩)|fail
 all_goals (cases h<;>(simp only[go_sem,seval,si,lT, *];exact⟨_,rfl⟩))
def f123 (a0:Option (List Int)):Option ((Option (List Int))×Bool):=
 cond a0.isNone
  (I (E2,En))
  (jx (bg (I []) (a0.getD [])) fun v2=>
  I (v2,E1))
theorem zdc {a0:Option (List Int)}{r}(h:f123 a0=I r):jz pr (X pr) 123 [sl 1 kw a0]=I (sl 1 kw r.1,r.2):=by
 unfold f123 at h
 refine eU sj ?_
 repeat' first|(replace h:=jy h;obtain⟨d,g,h⟩:=h)|(replace h:=j6 h;rcases h with⟨g,h⟩|⟨g,h⟩)|fail
 all_goals (cases h<;>(simp only[go_sem,seval,sj,lT, *];exact⟨_,rfl⟩))
def f66 (a0:qm):Option qm:=
 jx (f122 a0.names) fun v1=>
 jx (f123 a0.values) fun v3=>
 cond v1.2
  (cond v3.2
   (I (⟨a0.number,a0.kind,v1.1,v3.1,a0.text⟩))
   (I (⟨a0.number,a0.kind,v1.1,v3.1,a0.text⟩)))
  (cond v3.2
   (I (⟨a0.number,a0.kind,v1.1,v3.1,a0.text⟩))
   (I (⟨a0.number,a0.kind,v1.1,v3.1,a0.text⟩)))
theorem W66 {a0:qm}{r}(h:f66 a0=I r):jz pr (X pr) 66 [aE a0]=I (aE r,En):=by
 unfold f66 at h
 refine y7 IC ?_
 repeat' first|(replace h:=jy h;obtain⟨d,g,h⟩:=h;with_reducible first|replace g:=zer g|replace g:=zdc g|skip)|(replace h:=j6 h;rcases h with⟨g,h⟩|⟨g,h⟩)|fail
 all_goals (cases h<;>(simp only[go_sem,seval,IC, *];exact⟨_,rfl⟩))
end Go.Z
end
