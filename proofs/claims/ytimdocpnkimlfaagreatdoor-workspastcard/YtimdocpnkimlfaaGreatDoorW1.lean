/- Chapter 10. -/
import Derived.Test.YtimdocpnkimlfaaGreatDoorCA
set_option linter.unusedVariables false
set_option linter.unusedSimpArgs false
set_option maxRecDepth 100000
set_option maxHeartbeats 4000000
noncomputable section
open Bool renaming false→I,true→Ga
open Option renaming some→En,none→Gb
namespace Go.Z
open Go Go.Abs Go.W
def f48 (a0:Bool)(a1:Int):Option Int:=
 cond a0
  (En a1)
  (En 0)
theorem fK {a0 a1 r}(h:f48 a0 a1=En r):qc pr (X pr) 48 [.bool a0,Iv a1]=En (Iv r,I):=by
 unfold f48 at h
 refine zh Jw ?_
 repeat' first|(replace h:=qd h;rcases h with⟨g,h⟩|⟨g,h⟩)
 all_goals (cases h<;>(simp only[go_sem,seval,Jw, *];exact⟨_,rfl⟩))
def Bp (a0:Option (List Int))(s0:Int):Option (Int⊕(Int⊕Int)):=
 cond (decide (s0<((a0.getD []).length:Int)))
  (qa (qr (a0.getD []) s0) fun v10=>
  cond (decide (v10=0))
   (En (.inl (qe .i64 (s0+1))))
   (En (.inr (.inl v10))))
  (En (.inr (.inr s0)))
def NJ (a0:Option (List Int))(s0:Int):aY:=⟨[(5,sl 1 z7 a0,I),(6,Lv a0,I),(7,Iv s0,I)],[]⟩
def NK (a0:Option (List Int)):Int⊕Int→jf×aY
 | .inl d=>(.ret,⟨[(2,Iv d,I)],[]⟩)
 | .inr d=>(.exit 0,⟨[(5,sl 1 z7 a0,I),(6,Lv a0,I),(7,Iv d,I),(8,.bool I,I)],[]⟩)
theorem j5v (a0:Option (List Int))(s0:Int)(r)(h:Bp a0 s0=En r):jw pr NL (NJ a0) (NK a0) s0 r:=by
 unfold Bp at h
 repeat' first|(replace h:=qb h;obtain⟨d,g,h⟩:=h)|(replace h:=qd h;rcases h with⟨g,h⟩|⟨g,h⟩)
 all_goals (cases h<;>((first|refine qw ?_|refine jm ?_);simp only[go_sem,seval,NL,NJ,jg,NK, *]<;>rfl))
theorem j1x (a0:Option (List Int)){s0 d}(h:bu (Bp a0) s0=En d):X pr (.loop NL) (NJ a0 s0)=En (NK a0 d):=zc (j5v a0) h
def f46 (a0:Option (List Int)):Option Int:=
 qa (bu (Bp a0) 0) fun d13=>match d13 with
  | .inl d15=>
   En d15
  | .inr d16=>
   En 0
theorem lf {a0 r}(h:f46 a0=En r):qc pr (X pr) 46 [sl 1 z7 a0]=En (Iv r,I):=by
 unfold f46 at h
 refine zh Jx ?_
 repeat' first|(replace h:=qb h;obtain⟨d,g,h⟩:=h;with_reducible first|(replace g:=j1x a0 g;rcases d with d|d<;>dsimp only[NJ,NK,zf]at g h)|skip)|(replace h:=qd h;rcases h with⟨g,h⟩|⟨g,h⟩)
 all_goals (cases h<;>(simp only[go_sem,seval,Jx, *];exact⟨_,rfl⟩))
def f60 (a0:Int)(a1:Int)(a2:Int):Option Int:=
 cond (decide (a0<a1))
  (qa (f48 Ga 3) fun v2=>
  En v2)
  (qa (f48 (decide (a2<a0)) 3) fun v4=>
  En v4)
theorem Jo {a0 a1 a2 r}(h:f60 a0 a1 a2=En r):qc pr (X pr) 60 [Iv a0,Iv a1,Iv a2]=En (Iv r,I):=by
 unfold f60 at h
 refine zh Jy ?_
 repeat' first|(replace h:=qb h;obtain⟨d,g,h⟩:=h;with_reducible first|replace g:=fK g|skip)|(replace h:=qd h;rcases h with⟨g,h⟩|⟨g,h⟩)
 all_goals (cases h<;>(simp only[go_sem,seval,Jy, *];exact⟨_,rfl⟩))
def zL (a0:List UInt8)(s0:Int):Option (Int⊕(Unit⊕Int)):=
 cond (decide (s0<(a0.length:Int)))
  (qa (qr a0 s0) fun v70=>
  cond (decide (65≤(v70.toNat:Int)))
   (cond (decide ((v70.toNat:Int)≤90))
    (cond (decide (48≤(v70.toNat:Int)))
     (cond (decide ((v70.toNat:Int)≤57))
      (En (.inl (qe .i64 (s0+1))))
      (En (.inl (qe .i64 (s0+1)))))
     (En (.inl (qe .i64 (s0+1)))))
    (cond (decide (97≤(v70.toNat:Int)))
     (cond (decide (48≤(v70.toNat:Int)))
      (cond (decide ((v70.toNat:Int)≤57))
       (cond (decide ((v70.toNat:Int)≤122))
        (En (.inl (qe .i64 (s0+1))))
        (cond (decide (s0=0))
         (En (.inr (.inl ())))
         (En (.inl (qe .i64 (s0+1))))))
       (cond (decide ((v70.toNat:Int)≤122))
        (En (.inl (qe .i64 (s0+1))))
        (cond (decide (s0=0))
         (En (.inr (.inl ())))
         (cond (decide ((v70.toNat:Int)=95))
          (En (.inl (qe .i64 (s0+1))))
          (En (.inr (.inl ())))))))
      (cond (decide ((v70.toNat:Int)≤122))
       (En (.inl (qe .i64 (s0+1))))
       (cond (decide (s0=0))
        (En (.inr (.inl ())))
        (cond (decide ((v70.toNat:Int)=95))
         (En (.inl (qe .i64 (s0+1))))
         (En (.inr (.inl ())))))))
     (cond (decide (48≤(v70.toNat:Int)))
      (cond (decide ((v70.toNat:Int)≤57))
       (cond (decide (s0=0))
        (En (.inr (.inl ())))
        (En (.inl (qe .i64 (s0+1)))))
       (cond (decide (s0=0))
        (En (.inr (.inl ())))
        (cond (decide ((v70.toNat:Int)=95))
         (En (.inl (qe .i64 (s0+1))))
         (En (.inr (.inl ()))))))
      (cond (decide (s0=0))
       (En (.inr (.inl ())))
       (cond (decide ((v70.toNat:Int)=95))
        (En (.inl (qe .i64 (s0+1))))
        (En (.inr (.inl ()))))))))
   (cond (decide (97≤(v70.toNat:Int)))
    (cond (decide (48≤(v70.toNat:Int)))
     (cond (decide ((v70.toNat:Int)≤57))
      (cond (decide ((v70.toNat:Int)≤122))
       (En (.inl (qe .i64 (s0+1))))
       (cond (decide (s0=0))
        (En (.inr (.inl ())))
        (En (.inl (qe .i64 (s0+1))))))
      (cond (decide ((v70.toNat:Int)≤122))
       (En (.inl (qe .i64 (s0+1))))
       (cond (decide (s0=0))
        (En (.inr (.inl ())))
        (cond (decide ((v70.toNat:Int)=95))
         (En (.inl (qe .i64 (s0+1))))
         (En (.inr (.inl ())))))))
     (cond (decide ((v70.toNat:Int)≤122))
      (En (.inl (qe .i64 (s0+1))))
      (cond (decide (s0=0))
       (En (.inr (.inl ())))
       (cond (decide ((v70.toNat:Int)=95))
        (En (.inl (qe .i64 (s0+1))))
        (En (.inr (.inl ())))))))
    (cond (decide (48≤(v70.toNat:Int)))
     (cond (decide ((v70.toNat:Int)≤57))
      (cond (decide (s0=0))
       (En (.inr (.inl ())))
       (En (.inl (qe .i64 (s0+1)))))
      (cond (decide (s0=0))
       (En (.inr (.inl ())))
       (cond (decide ((v70.toNat:Int)=95))
        (En (.inl (qe .i64 (s0+1))))
        (En (.inr (.inl ()))))))
     (cond (decide (s0=0))
      (En (.inr (.inl ())))
      (cond (decide ((v70.toNat:Int)=95))
       (En (.inl (qe .i64 (s0+1))))
       (En (.inr (.inl ()))))))))
  (En (.inr (.inr s0)))
def NM (a0:List UInt8)(s0:Int):aY:=⟨[(0,.str a0,I),(3,Iv s0,I)],[]⟩
def NN (a0:List UInt8):Unit⊕Int→jf×aY
 | .inl d=>(.ret,⟨[(2,.bool I,I)],[]⟩)
 | .inr d=>(.exit 0,⟨[(0,.str a0,I),(3,Iv d,I),(17,.bool I,I)],[]⟩)
theorem j0n (a0:List UInt8)(s0:Int)(r)(h:zL a0 s0=En r):jw pr NP (NM a0) (NN a0) s0 r:=by
 unfold zL at h
 repeat' first|(replace h:=qb h;obtain⟨d,g,h⟩:=h)|(replace h:=qd h;rcases h with⟨g,h⟩|⟨g,h⟩)
 all_goals (cases h<;>((first|refine qw ?_|refine jm ?_);simp only[go_sem,seval,NP,NM,jj0,NN, *]<;>rfl))
theorem j6m (a0:List UInt8){s0 d}(h:bu (zL a0) s0=En d):X pr (.loop NP) (NM a0 s0)=En (NN a0 d):=zc (j0n a0) h
def f90 (a0:List UInt8):Option Bool:=
 cond (decide ((a0.length:Int)=0))
  (En I)
  (cond (decide (24<(a0.length:Int)))
   (En I)
   (qa (bu (zL a0) 0) fun d112=>match d112 with
    | .inl d114=>
     En I
    | .inr d115=>
     En Ga))
theorem W90 {a0 r}(h:f90 a0=En r):qc pr (X pr) 90 [.str a0]=En (.bool r,I):=by
 unfold f90 at h
 refine zh NQ ?_
 repeat' first|(replace h:=qb h;obtain⟨d,g,h⟩:=h;with_reducible first|(replace g:=j6m a0 g;rcases d with d|d<;>dsimp only[NM,NN,zf]at g h)|skip)|(replace h:=qd h;rcases h with⟨g,h⟩|⟨g,h⟩)
 all_goals (cases h<;>(simp only[go_sem,seval,NQ, *];exact⟨_,rfl⟩))
def zM (a0:List UInt8):Option (Option (Nat)⊕(Nat⊕Nat)):=
 cond (decide (0<a0.length))
  (cond (decide (65≤((qn a0 0).1:Int)))
   (cond (decide (((qn a0 0).1:Int)≤90))
    (cond (decide (48≤((qn a0 0).1:Int)))
     (cond (decide (((qn a0 0).1:Int)≤57))
      (En (.inl (En (0+(qn a0 0).2))))
      (En (.inl (En (0+(qn a0 0).2)))))
     (En (.inl (En (0+(qn a0 0).2)))))
    (cond (decide (97≤((qn a0 0).1:Int)))
     (cond (decide (48≤((qn a0 0).1:Int)))
      (cond (decide (((qn a0 0).1:Int)≤57))
       (cond (decide (((qn a0 0).1:Int)≤122))
        (En (.inl (En (0+(qn a0 0).2))))
        (En (.inr (.inl (0+(qn a0 0).2)))))
       (cond (decide (((qn a0 0).1:Int)≤122))
        (En (.inl (En (0+(qn a0 0).2))))
        (En (.inr (.inl (0+(qn a0 0).2))))))
      (cond (decide (((qn a0 0).1:Int)≤122))
       (En (.inl (En (0+(qn a0 0).2))))
       (En (.inr (.inl (0+(qn a0 0).2))))))
     (cond (decide (48≤((qn a0 0).1:Int)))
      (cond (decide (((qn a0 0).1:Int)≤57))
       (En (.inr (.inl (0+(qn a0 0).2))))
       (En (.inr (.inl (0+(qn a0 0).2)))))
      (En (.inr (.inl (0+(qn a0 0).2)))))))
   (cond (decide (97≤((qn a0 0).1:Int)))
    (cond (decide (48≤((qn a0 0).1:Int)))
     (cond (decide (((qn a0 0).1:Int)≤57))
      (cond (decide (((qn a0 0).1:Int)≤122))
       (En (.inl (En (0+(qn a0 0).2))))
       (En (.inr (.inl (0+(qn a0 0).2)))))
      (cond (decide (((qn a0 0).1:Int)≤122))
       (En (.inl (En (0+(qn a0 0).2))))
       (En (.inr (.inl (0+(qn a0 0).2))))))
     (cond (decide (((qn a0 0).1:Int)≤122))
      (En (.inl (En (0+(qn a0 0).2))))
      (En (.inr (.inl (0+(qn a0 0).2))))))
    (cond (decide (48≤((qn a0 0).1:Int)))
     (cond (decide (((qn a0 0).1:Int)≤57))
      (En (.inr (.inl (0+(qn a0 0).2))))
      (En (.inr (.inl (0+(qn a0 0).2)))))
     (En (.inr (.inl (0+(qn a0 0).2)))))))
  (En (.inr (.inr 0)))
def zN (a0:List UInt8)(s0:Nat):Option (Option (Nat)⊕(Nat⊕Nat)):=
 cond (decide (s0<a0.length))
  (cond (decide (65≤((qn a0 s0).1:Int)))
   (cond (decide (((qn a0 s0).1:Int)≤90))
    (cond (decide (48≤((qn a0 s0).1:Int)))
     (cond (decide (((qn a0 s0).1:Int)≤57))
      (En (.inl (En (s0+(qn a0 s0).2))))
      (En (.inl (En (s0+(qn a0 s0).2)))))
     (En (.inl (En (s0+(qn a0 s0).2)))))
    (cond (decide (97≤((qn a0 s0).1:Int)))
     (cond (decide (48≤((qn a0 s0).1:Int)))
      (cond (decide (((qn a0 s0).1:Int)≤57))
       (cond (decide (((qn a0 s0).1:Int)≤122))
        (En (.inl (En (s0+(qn a0 s0).2))))
        (cond (decide ((s0:Int)=0))
         (En (.inr (.inl (s0+(qn a0 s0).2))))
         (En (.inl (En (s0+(qn a0 s0).2))))))
       (cond (decide (((qn a0 s0).1:Int)≤122))
        (En (.inl (En (s0+(qn a0 s0).2))))
        (cond (decide ((s0:Int)=0))
         (En (.inr (.inl (s0+(qn a0 s0).2))))
         (cond (decide (((qn a0 s0).1:Int)=95))
          (En (.inl (En (s0+(qn a0 s0).2))))
          (En (.inr (.inl (s0+(qn a0 s0).2))))))))
      (cond (decide (((qn a0 s0).1:Int)≤122))
       (En (.inl (En (s0+(qn a0 s0).2))))
       (cond (decide ((s0:Int)=0))
        (En (.inr (.inl (s0+(qn a0 s0).2))))
        (cond (decide (((qn a0 s0).1:Int)=95))
         (En (.inl (En (s0+(qn a0 s0).2))))
         (En (.inr (.inl (s0+(qn a0 s0).2))))))))
     (cond (decide (48≤((qn a0 s0).1:Int)))
      (cond (decide (((qn a0 s0).1:Int)≤57))
       (cond (decide ((s0:Int)=0))
        (En (.inr (.inl (s0+(qn a0 s0).2))))
        (En (.inl (En (s0+(qn a0 s0).2)))))
       (cond (decide ((s0:Int)=0))
        (En (.inr (.inl (s0+(qn a0 s0).2))))
        (cond (decide (((qn a0 s0).1:Int)=95))
         (En (.inl (En (s0+(qn a0 s0).2))))
         (En (.inr (.inl (s0+(qn a0 s0).2)))))))
      (cond (decide ((s0:Int)=0))
       (En (.inr (.inl (s0+(qn a0 s0).2))))
       (cond (decide (((qn a0 s0).1:Int)=95))
        (En (.inl (En (s0+(qn a0 s0).2))))
        (En (.inr (.inl (s0+(qn a0 s0).2)))))))))
   (cond (decide (97≤((qn a0 s0).1:Int)))
    (cond (decide (48≤((qn a0 s0).1:Int)))
     (cond (decide (((qn a0 s0).1:Int)≤57))
      (cond (decide (((qn a0 s0).1:Int)≤122))
       (En (.inl (En (s0+(qn a0 s0).2))))
       (cond (decide ((s0:Int)=0))
        (En (.inr (.inl (s0+(qn a0 s0).2))))
        (En (.inl (En (s0+(qn a0 s0).2))))))
      (cond (decide (((qn a0 s0).1:Int)≤122))
       (En (.inl (En (s0+(qn a0 s0).2))))
       (cond (decide ((s0:Int)=0))
        (En (.inr (.inl (s0+(qn a0 s0).2))))
        (cond (decide (((qn a0 s0).1:Int)=95))
         (En (.inl (En (s0+(qn a0 s0).2))))
         (En (.inr (.inl (s0+(qn a0 s0).2))))))))
     (cond (decide (((qn a0 s0).1:Int)≤122))
      (En (.inl (En (s0+(qn a0 s0).2))))
      (cond (decide ((s0:Int)=0))
       (En (.inr (.inl (s0+(qn a0 s0).2))))
       (cond (decide (((qn a0 s0).1:Int)=95))
        (En (.inl (En (s0+(qn a0 s0).2))))
        (En (.inr (.inl (s0+(qn a0 s0).2))))))))
    (cond (decide (48≤((qn a0 s0).1:Int)))
     (cond (decide (((qn a0 s0).1:Int)≤57))
      (cond (decide ((s0:Int)=0))
       (En (.inr (.inl (s0+(qn a0 s0).2))))
       (En (.inl (En (s0+(qn a0 s0).2)))))
      (cond (decide ((s0:Int)=0))
       (En (.inr (.inl (s0+(qn a0 s0).2))))
       (cond (decide (((qn a0 s0).1:Int)=95))
        (En (.inl (En (s0+(qn a0 s0).2))))
        (En (.inr (.inl (s0+(qn a0 s0).2)))))))
     (cond (decide ((s0:Int)=0))
      (En (.inr (.inl (s0+(qn a0 s0).2))))
      (cond (decide (((qn a0 s0).1:Int)=95))
       (En (.inl (En (s0+(qn a0 s0).2))))
       (En (.inr (.inl (s0+(qn a0 s0).2)))))))))
  (En (.inr (.inr s0)))
def Ip (a0:List UInt8):Option (Nat)→Option (Option (Nat)⊕(Nat⊕Nat))
 |none=>zM a0
 |some x=>zN a0 x
def Yq (a0:List UInt8)(s0:Nat):aY:=⟨[(0,.str a0,I),(8,.ptr 0 0,I),(46,.bool I,I)],[.iter a0 s0]⟩
def Ct (a0:List UInt8):Option (Nat)→aY
 |none=>⟨[(0,.str a0,I),(8,.ptr 0 0,I)],[.iter a0 0]⟩
 |some x=>Yq a0 x
def Cu (a0:List UInt8):Nat⊕Nat→jf×aY
 | .inl d=>(.ret,⟨[(2,.bool I,I)],[.iter a0 d]⟩)
 | .inr d=>(.exit 0,⟨[(0,.str a0,I),(8,.ptr 0 0,I),(9,.aJ [.bool I],I),(10,.bool I,I)],[.iter a0 d]⟩)
theorem ju9 (a0:List UInt8)(r)(h:zM a0=En r):jw pr Cv (Ct a0) (Cu a0) Gb r:=by
 unfold zM at h
 repeat' first|(replace h:=qd h;rcases h with⟨g,h⟩|⟨g,h⟩)
 all_goals (cases h<;>((first|refine qw ?_|refine jm ?_);simp only[go_sem,seval,Cv,Ct,Yq,LI,Cu, *]<;>rfl))
theorem jt2 (a0:List UInt8)(s0:Nat)(r)(h:zN a0 s0=En r):jw pr Cv (Ct a0) (Cu a0) (En s0) r:=by
 unfold zN at h
 repeat' first|(replace h:=qd h;rcases h with⟨g,h⟩|⟨g,h⟩)
 all_goals (cases h<;>((first|refine qw ?_|refine jm ?_);simp only[go_sem,seval,Cv,Ct,Yq,LI,Cu, *]<;>rfl))
theorem j5g (a0:List UInt8):∀(x:Option (Nat)) (r) (h:Ip a0 x=En r),jw pr Cv (Ct a0) (Cu a0) x r
 |none,r,h=>ju9 a0 r h
 |some x,r,h=>jt2 a0 x r h
theorem jzm (a0:List UInt8){s0 d}(h:bu (Ip a0) s0=En d):X pr (.loop Cv) (Ct a0 s0)=En (Cu a0 d):=zc (j5g a0) h
def f81 (a0:List UInt8):Option Bool:=
 qa (bu (Ip a0) Gb) fun d192=>match d192 with
  | .inl d194=>
   En I
  | .inr d195=>
   cond (decide (a0=[]))
    (En I)
    (En (decide ((a0.length:Int)≤24)))
theorem W81 {a0 r}(h:f81 a0=En r):qc pr (X pr) 81 [.str a0]=En (.bool r,I):=by
 unfold f81 at h
 refine zh Jz ?_
 repeat' first|(replace h:=qb h;obtain⟨d,g,h⟩:=h;with_reducible first|(replace g:=jzm a0 g;rcases d with d|d<;>dsimp only[Ct,Cu,zf]at g h)|skip)|(replace h:=qd h;rcases h with⟨g,h⟩|⟨g,h⟩)
 all_goals (cases h<;>(simp only[go_sem,seval,Jz, *];exact⟨_,rfl⟩))
end Go.Z
namespace Go.Z
open Go Go.Abs Go.W
def Ey (a0:List UInt8):Option Int:=
 qa (f81 a0) fun v1=>
 qa (f48 (!v1) 8) fun v3=>
 En v3
theorem j36 (hp:qi){a0 r}(h:Ey a0=En r):qo pr (X pr) 110 [.str a0] hp=En (Iv r,I,hp):=by
 unfold Ey at h
 obtain⟨v1,h2,h⟩:=qb h
 have sQ:qc pr (X pr) 81 [.str a0]=En (.bool v1,I):=W81 h2
 obtain⟨v3,h4,h⟩:=qb h
 have Cj:qc pr (X pr) 48 [.bool (!v1),Iv 8]=En (Iv v3,I):=fK h4
 have hr:v3=r:=En.inj h
 subst hr
 rw[ql (show pr.bO 110=En tE from rfl) (by simp)]
 simp only[go_sem,seval,tE,sQ,Cj]<;>rfl
def Ez (a0:Int):Option Int:=
 qa (f60 a0 0 999999999) fun v1=>
 En v1
theorem j2b (hp:qi){a0 r}(h:Ez a0=En r):qo pr (X pr) 112 [Iv a0] hp=En (Iv r,I,hp):=by
 unfold Ez at h
 obtain⟨v1,h2,h⟩:=qb h
 have sQ:qc pr (X pr) 60 [Iv a0,Iv 0,Iv 999999999]=En (Iv v1,I):=Jo h2
 have hr:v1=r:=En.inj h
 subst hr
 rw[ql (show pr.bO 112=En tF from rfl) (by simp)]
 simp only[go_sem,seval,tF,sQ]<;>rfl
def Ir (a0:Option (List (List UInt8)))(s0:(Option (List Int))×Int×Bool):Option (((Option (List Int))×Int×Bool)⊕(((Option (List Int))×Bool×Int))):=
 cond (decide (s0.2.1<((a0.getD []).length:Int)))
  (qa (qr (a0.getD []) s0.2.1) fun gV=>
  qa (Ey gV) fun v20=>
  cond s0.2.2
   (qa (bB s0.1 [v20]) fun v23=>
   En (.inl (v23,qe .i64 (s0.2.1+1),Ga)))
   (cond s0.1.isNone
    (qa (bB s0.1 [v20]) fun v26=>
    En (.inl (v26,qe .i64 (s0.2.1+1),Ga)))
    (Gb)))
  (En (.inr (s0.1,s0.2.2,s0.2.1)))
def NR (a0:Option (List (List UInt8)))(s0:(Option (List Int))×Int×Bool):aY:=⟨[(1,.fn (.func 110) [] [],I),(5,sl 1 z7 s0.1,s0.2.2),(8,sl 1 yl a0,I),(9,Lv a0,I),(10,Iv s0.2.1,I)],[]⟩
def NS (a0:Option (List (List UInt8)))(d:((Option (List Int))×Bool×Int)):jf×aY:=(.exit 0,⟨[(1,.fn (.func 110) [] [],I),(5,sl 1 z7 d.1,d.2.1),(8,sl 1 yl a0,I),(9,Lv a0,I),(10,Iv d.2.2,I),(11,.bool I,I)],[]⟩)
theorem jtf (a0:Option (List (List UInt8)))(s0:(Option (List Int))×Int×Bool)(r)(h:Ir a0 s0=En r):jw pr NT (NR a0) (NS a0) s0 r:=by
 unfold Ir at h
 repeat' first|(replace h:=qb h;obtain⟨d,g,h⟩:=h;with_reducible first|replace g:=j36 [] g|replace g:=q7w g|skip)|(replace h:=qd h;rcases h with⟨g,h⟩|⟨g,h⟩)
 all_goals (cases h<;>((first|refine qw ?_|refine jm ?_);simp only[go_sem,seval,NT,NR,jg,NS, *]<;>rfl))
theorem jrw (a0:Option (List (List UInt8))){s0 d}(h:bu (Ir a0) s0=En d):X pr (.loop NT) (NR a0 s0)=En (NS a0 d):=zc (jtf a0) h
def Iq (a0:Option (List (List UInt8))):Option ((Option (List Int))×Bool):=
 qa (bu (Ir a0) (Gb,0,I)) fun d28=>
 En (d28.1,d28.2.1)
theorem zgd {a0 r}(h:Iq a0=En r):qc pr (X pr) 109 [sl 1 yl a0,.fn (.func 110) [] []]=En (sl 1 z7 r.1,r.2):=by
 unfold Iq at h
 refine kg tG ?_
 repeat' first|(replace h:=qb h;obtain⟨d,g,h⟩:=h;with_reducible first|(replace g:=jrw a0 g;dsimp only[NR,NS,zf]at g h)|skip)|(replace h:=qd h;rcases h with⟨g,h⟩|⟨g,h⟩)
 all_goals (cases h<;>(simp only[go_sem,seval,tG, *];exact⟨_,rfl⟩))
def Iw (a0:Option (List Int))(s0:(Option (List Int))×Int×Bool):Option (((Option (List Int))×Int×Bool)⊕(((Option (List Int))×Bool×Int))):=
 cond (decide (s0.2.1<((a0.getD []).length:Int)))
  (qa (qr (a0.getD []) s0.2.1) fun gV=>
  qa (Ez gV) fun v20=>
  cond s0.2.2
   (qa (bB s0.1 [v20]) fun v23=>
   En (.inl (v23,qe .i64 (s0.2.1+1),Ga)))
   (cond s0.1.isNone
    (qa (bB s0.1 [v20]) fun v26=>
    En (.inl (v26,qe .i64 (s0.2.1+1),Ga)))
    (Gb)))
  (En (.inr (s0.1,s0.2.2,s0.2.1)))
def NU (a0:Option (List Int))(s0:(Option (List Int))×Int×Bool):aY:=⟨[(1,.fn (.func 112) [] [],I),(5,sl 1 z7 s0.1,s0.2.2),(8,sl 1 z7 a0,I),(9,Lv a0,I),(10,Iv s0.2.1,I)],[]⟩
def NV (a0:Option (List Int))(d:((Option (List Int))×Bool×Int)):jf×aY:=(.exit 0,⟨[(1,.fn (.func 112) [] [],I),(5,sl 1 z7 d.1,d.2.1),(8,sl 1 z7 a0,I),(9,Lv a0,I),(10,Iv d.2.2,I),(11,.bool I,I)],[]⟩)
theorem jt0 (a0:Option (List Int))(s0:(Option (List Int))×Int×Bool)(r)(h:Iw a0 s0=En r):jw pr NW (NU a0) (NV a0) s0 r:=by
 unfold Iw at h
 repeat' first|(replace h:=qb h;obtain⟨d,g,h⟩:=h;with_reducible first|replace g:=j2b [] g|replace g:=q7w g|skip)|(replace h:=qd h;rcases h with⟨g,h⟩|⟨g,h⟩)
 all_goals (cases h<;>((first|refine qw ?_|refine jm ?_);simp only[go_sem,seval,NW,NU,jg,NV, *]<;>rfl))
theorem ju5 (a0:Option (List Int)){s0 d}(h:bu (Iw a0) s0=En d):X pr (.loop NW) (NU a0 s0)=En (NV a0 d):=zc (jt0 a0) h
def Iu (a0:Option (List Int)):Option ((Option (List Int))×Bool):=
 qa (bu (Iw a0) (Gb,0,I)) fun d28=>
 En (d28.1,d28.2.1)
theorem zcd {a0 r}(h:Iu a0=En r):qc pr (X pr) 111 [sl 1 z7 a0,.fn (.func 112) [] []]=En (sl 1 z7 r.1,r.2):=by
 unfold Iu at h
 refine kg tH ?_
 repeat' first|(replace h:=qb h;obtain⟨d,g,h⟩:=h;with_reducible first|(replace g:=ju5 a0 g;dsimp only[NU,NV,zf]at g h)|skip)|(replace h:=qd h;rcases h with⟨g,h⟩|⟨g,h⟩)
 all_goals (cases h<;>(simp only[go_sem,seval,tH, *];exact⟨_,rfl⟩))
def Mf (a0:Option (List (List UInt8))):Option ((Option (List (List UInt8)))×Bool):=
 cond a0.isNone
  (En (Gb,I))
  (qa (bB (En []) (a0.getD [])) fun v2=>
  En (v2,Ga))
theorem zi3 {a0 r}(h:Mf a0=En r):qc pr (X pr) 114 [sl 1 yl a0]=En (sl 1 yl r.1,r.2):=by
 unfold Mf at h
 refine kg tI ?_
 repeat' first|(replace h:=qb h;obtain⟨d,g,h⟩:=h)|(replace h:=qd h;rcases h with⟨g,h⟩|⟨g,h⟩)
 all_goals (cases h<;>(simp only[go_sem,seval,tI,kw, *];exact⟨_,rfl⟩))
def Mg (a0:Option (List Int)):Option ((Option (List Int))×Bool):=
 cond a0.isNone
  (En (Gb,I))
  (qa (bB (En []) (a0.getD [])) fun v2=>
  En (v2,Ga))
theorem zf6 {a0 r}(h:Mg a0=En r):qc pr (X pr) 115 [sl 1 z7 a0]=En (sl 1 z7 r.1,r.2):=by
 unfold Mg at h
 refine kg tJ ?_
 repeat' first|(replace h:=qb h;obtain⟨d,g,h⟩:=h)|(replace h:=qd h;rcases h with⟨g,h⟩|⟨g,h⟩)
 all_goals (cases h<;>(simp only[go_sem,seval,tJ,kw, *];exact⟨_,rfl⟩))
def f50 (a0:GEv):Option GEv:=
 qa (Mf a0.names) fun v1=>
 qa (Mg a0.values) fun v3=>
 cond v1.2
  (cond v3.2
   (En (⟨a0.number,a0.kind,v1.1,v3.1,a0.text⟩))
   (En (⟨a0.number,a0.kind,v1.1,v3.1,a0.text⟩)))
  (cond v3.2
   (En (⟨a0.number,a0.kind,v1.1,v3.1,a0.text⟩))
   (En (⟨a0.number,a0.kind,v1.1,v3.1,a0.text⟩)))
theorem W50 {a0 r}(h:f50 a0=En r):qc pr (X pr) 50 [aE a0]=En (aE r,I):=by
 unfold f50 at h
 refine zh JA ?_
 repeat' first|(replace h:=qb h;obtain⟨d,g,h⟩:=h;with_reducible first|replace g:=zi3 g|replace g:=zf6 g|skip)|(replace h:=qd h;rcases h with⟨g,h⟩|⟨g,h⟩)
 all_goals (cases h<;>(simp only[go_sem,seval,JA, *];exact⟨_,rfl⟩))
end Go.Z
namespace Go.Z
open Go Go.Abs Go.W
def NY (a0:ak)(a1:List UInt8)(s0:Int):Option (Int⊕(Int⊕Int)):=
 cond (decide (s0<((a0.units.getD []).length:Int)))
  (qa (qr (a0.units.getD []) s0) fun v10=>
  cond (decide (v10.name=a1))
   (En (.inr (.inl s0)))
   (En (.inl (qe .i64 (s0+1)))))
  (En (.inr (.inr s0)))
def NZ (a0:ak)(a1:List UInt8)(s0:Int):aY:=⟨[(1,.str a1,I),(2,.ai (aR a0),I),(5,Iv s0,I)],[]⟩
def N0 (a0:ak)(a1:List UInt8):Int⊕Int→jf×aY
 | .inl d=>(.ret,⟨[(4,Iv d,I)],[]⟩)
 | .inr d=>(.exit 0,⟨[(1,.str a1,I),(2,.ai (aR a0),I),(5,Iv d,I),(10,.bool I,I)],[]⟩)
theorem jvl (a0:ak)(a1:List UInt8)(s0:Int)(r)(h:NY a0 a1 s0=En r):jw pr N1 (NZ a0 a1) (N0 a0 a1) s0 r:=by
 unfold NY at h
 repeat' first|(replace h:=qb h;obtain⟨d,g,h⟩:=h)|(replace h:=qd h;rcases h with⟨g,h⟩|⟨g,h⟩)
 all_goals (cases h<;>((first|refine qw ?_|refine jm ?_);simp only[go_sem,seval,N1,NZ,jg,N0, *]<;>rfl))
theorem jue (a0:ak)(a1:List UInt8){s0 d}(h:bu (NY a0 a1) s0=En d):X pr (.loop N1) (NZ a0 a1 s0)=En (N0 a0 a1 d):=zc (jvl a0 a1) h
def Bg (a0:ak)(a1:List UInt8):Option Int:=
 qa (bu (NY a0 a1) 0) fun d13=>match d13 with
  | .inl d15=>
   En d15
  | .inr d16=>
   En (-1)
theorem Yd {a0 a1 r}(h:Bg a0 a1=En r):qc pr (X pr) 152 [aR a0,.str a1]=En (Iv r,I):=by
 unfold Bg at h
 refine zh xt ?_
 repeat' first|(replace h:=qb h;obtain⟨d,g,h⟩:=h;with_reducible first|(replace g:=jue a0 a1 g;rcases d with d|d<;>dsimp only[NZ,N0,zf]at g h)|skip)|(replace h:=qd h;rcases h with⟨g,h⟩|⟨g,h⟩)
 all_goals (cases h<;>(simp only[go_sem,seval,xt, *];exact⟨_,rfl⟩))
def N2 (a0:ak)(a1:List UInt8)(s0:Int):Option (Int⊕(Int⊕Int)):=
 cond (decide (s0<((a0.au.getD []).length:Int)))
  (qa (qr (a0.au.getD []) s0) fun v10=>
  cond (decide (v10.name=a1))
   (En (.inr (.inl s0)))
   (En (.inl (qe .i64 (s0+1)))))
  (En (.inr (.inr s0)))
def N3 (a0:ak)(a1:List UInt8)(s0:Int):aY:=⟨[(1,.str a1,I),(2,.ai (aR a0),I),(5,Iv s0,I)],[]⟩
def N4 (a0:ak)(a1:List UInt8):Int⊕Int→jf×aY
 | .inl d=>(.ret,⟨[(4,Iv d,I)],[]⟩)
 | .inr d=>(.exit 0,⟨[(1,.str a1,I),(2,.ai (aR a0),I),(5,Iv d,I),(10,.bool I,I)],[]⟩)
theorem jxp (a0:ak)(a1:List UInt8)(s0:Int)(r)(h:N2 a0 a1 s0=En r):jw pr N5 (N3 a0 a1) (N4 a0 a1) s0 r:=by
 unfold N2 at h
 repeat' first|(replace h:=qb h;obtain⟨d,g,h⟩:=h)|(replace h:=qd h;rcases h with⟨g,h⟩|⟨g,h⟩)
 all_goals (cases h<;>((first|refine qw ?_|refine jm ?_);simp only[go_sem,seval,N5,N3,jg,N4, *]<;>rfl))
theorem jso (a0:ak)(a1:List UInt8){s0 d}(h:bu (N2 a0 a1) s0=En d):X pr (.loop N5) (N3 a0 a1 s0)=En (N4 a0 a1 d):=zc (jxp a0 a1) h
def wM (a0:ak)(a1:List UInt8):Option Int:=
 qa (bu (N2 a0 a1) 0) fun d13=>match d13 with
  | .inl d15=>
   En d15
  | .inr d16=>
   En (-1)
theorem Jn {a0 a1 r}(h:wM a0 a1=En r):qc pr (X pr) 149 [aR a0,.str a1]=En (Iv r,I):=by
 unfold wM at h
 refine zh xu ?_
 repeat' first|(replace h:=qb h;obtain⟨d,g,h⟩:=h;with_reducible first|(replace g:=jso a0 a1 g;rcases d with d|d<;>dsimp only[N3,N4,zf]at g h)|skip)|(replace h:=qd h;rcases h with⟨g,h⟩|⟨g,h⟩)
 all_goals (cases h<;>(simp only[go_sem,seval,xu, *];exact⟨_,rfl⟩))
def N6 (a0:ak)(a1:List UInt8)(s0:Int):Option (Int⊕(Int⊕Int)):=
 cond (decide (s0<((a0.ae.getD []).length:Int)))
  (qa (qr (a0.ae.getD []) s0) fun v10=>
  cond (decide (v10.name=a1))
   (En (.inr (.inl s0)))
   (En (.inl (qe .i64 (s0+1)))))
  (En (.inr (.inr s0)))
def N7 (a0:ak)(a1:List UInt8)(s0:Int):aY:=⟨[(1,.str a1,I),(2,.ai (aR a0),I),(5,Iv s0,I)],[]⟩
def N8 (a0:ak)(a1:List UInt8):Int⊕Int→jf×aY
 | .inl d=>(.ret,⟨[(4,Iv d,I)],[]⟩)
 | .inr d=>(.exit 0,⟨[(1,.str a1,I),(2,.ai (aR a0),I),(5,Iv d,I),(10,.bool I,I)],[]⟩)
theorem jw9 (a0:ak)(a1:List UInt8)(s0:Int)(r)(h:N6 a0 a1 s0=En r):jw pr N9 (N7 a0 a1) (N8 a0 a1) s0 r:=by
 unfold N6 at h
 repeat' first|(replace h:=qb h;obtain⟨d,g,h⟩:=h)|(replace h:=qd h;rcases h with⟨g,h⟩|⟨g,h⟩)
 all_goals (cases h<;>((first|refine qw ?_|refine jm ?_);simp only[go_sem,seval,N9,N7,jg,N8, *]<;>rfl))
theorem jrt (a0:ak)(a1:List UInt8){s0 d}(h:bu (N6 a0 a1) s0=En d):X pr (.loop N9) (N7 a0 a1 s0)=En (N8 a0 a1 d):=zc (jw9 a0 a1) h
def wN (a0:ak)(a1:List UInt8):Option Int:=
 qa (bu (N6 a0 a1) 0) fun d13=>match d13 with
  | .inl d15=>
   En d15
  | .inr d16=>
   En (-1)
theorem Nw {a0 a1 r}(h:wN a0 a1=En r):qc pr (X pr) 151 [aR a0,.str a1]=En (Iv r,I):=by
 unfold wN at h
 refine zh xw ?_
 repeat' first|(replace h:=qb h;obtain⟨d,g,h⟩:=h;with_reducible first|(replace g:=jrt a0 a1 g;rcases d with d|d<;>dsimp only[N7,N8,zf]at g h)|skip)|(replace h:=qd h;rcases h with⟨g,h⟩|⟨g,h⟩)
 all_goals (cases h<;>(simp only[go_sem,seval,xw, *];exact⟨_,rfl⟩))
def BS (a0:Option (List GEv))(s0:Int)(s1:Int):Option (Int⊕(Unit⊕Int)):=
 qa (qr (a0.getD []) s0) fun v79=>
 cond (decide (s1<((v79.names.getD []).length:Int)))
  (qa (qr (v79.names.getD []) s1) fun v82=>
  cond (decide (40<(v82.length:Int)))
   (En (.inr (.inl ())))
   (En (.inl (qe .i64 (s1+1)))))
  (En (.inr (.inr s1)))
def Oa (a0:Option (List GEv))(s0:Int)(s1:Int):aY:=⟨[(0,sl 5 vev a0,I),(5,Iv s0,I),(6,Iv s1,I)],[]⟩
def Ob (a0:Option (List GEv))(s0:Int):Unit⊕Int→jf×aY
 | .inl d=>(.ret,⟨[(4,.bool I,I)],[]⟩)
 | .inr d=>(.exit 2,⟨[(0,sl 5 vev a0,I),(5,Iv s0,I),(6,Iv d,I),(58,.bool I,I)],[]⟩)
theorem j69 (a0:Option (List GEv))(s0:Int)(s1:Int)(r)(h:BS a0 s0 s1=En r):jw pr Oc (Oa a0 s0) (Ob a0 s0) s1 r:=by
 unfold BS at h
 repeat' first|(replace h:=qb h;obtain⟨d,g,h⟩:=h)|(replace h:=qd h;rcases h with⟨g,h⟩|⟨g,h⟩)
 all_goals (cases h<;>((first|refine qw ?_|refine jm ?_);simp only[go_sem,seval,Oc,Oa,jg,Ob, *]<;>rfl))
theorem j72 (a0:Option (List GEv))(s0:Int){s1 d}(h:bu (BS a0 s0) s1=En d):X pr (.loop Oc) (Oa a0 s0 s1)=En (Ob a0 s0 d):=zc (j69 a0 s0) h
def BR (a0:Option (List GEv))(s0:Int):Option (Int⊕(Unit⊕Int)):=
 cond (decide (s0<((a0.getD []).length:Int)))
  (qa (qr (a0.getD []) s0) fun sk=>
  cond (decide (40<(sk.kind.length:Int)))
   (En (.inr (.inl ())))
   (cond (decide (6<((sk.names.getD []).length:Int)))
    (En (.inr (.inl ())))
    (cond (decide (8<((sk.values.getD []).length:Int)))
     (En (.inr (.inl ())))
     (cond (decide (200<(sk.text.length:Int)))
      (En (.inr (.inl ())))
      (qa (bu (BS a0 s0) 0) fun d85=>match d85 with
       | .inl d87=>
        En (.inr (.inl ()))
       | .inr d88=>
        En (.inl (qe .i64 (s0+1))))))))
  (En (.inr (.inr s0)))
def Od (a0:Option (List GEv))(s0:Int):aY:=⟨[(0,sl 5 vev a0,I),(5,Iv s0,I)],[]⟩
def Oe (a0:Option (List GEv)):Unit⊕Int→jf×aY
 | .inl d=>(.ret,⟨[(4,.bool I,I)],[]⟩)
 | .inr d=>(.exit 0,⟨[(0,sl 5 vev a0,I),(5,Iv d,I),(14,.bool I,I)],[]⟩)
theorem j5m (a0:Option (List GEv))(s0:Int)(r)(h:BR a0 s0=En r):jw pr Og (Od a0) (Oe a0) s0 r:=by
 unfold BR at h
 repeat' first|(replace h:=qb h;obtain⟨d,g,h⟩:=h;with_reducible first|(replace g:=j72 a0 s0 g;rcases d with d|d<;>dsimp only[Oa,Ob,zf]at g h)|skip)|(replace h:=qd h;rcases h with⟨g,h⟩|⟨g,h⟩)
 all_goals (cases h<;>((first|refine qw ?_|refine jm ?_);simp only[go_sem,seval,Og,Od,jg,Oe, *]<;>rfl))
theorem j8c (a0:Option (List GEv)){s0 d}(h:bu (BR a0) s0=En d):X pr (.loop Og) (Od a0 s0)=En (Oe a0 d):=zc (j5m a0) h
def f12 (a0:Option (List GEv))(a1:Int):Option Bool:=
 cond (decide (a1<((a0.getD []).length:Int)))
  (En I)
  (qa (bu (BR a0) 0) fun d89=>match d89 with
   | .inl d91=>
    En I
   | .inr d92=>
    En Ga)
theorem W12 {a0 a1 r}(h:f12 a0 a1=En r):qc pr (X pr) 12 [sl 5 vev a0,Iv a1]=En (.bool r,I):=by
 unfold f12 at h
 refine zh mL ?_
 repeat' first|(replace h:=qb h;obtain⟨d,g,h⟩:=h;with_reducible first|(replace g:=j8c a0 g;rcases d with d|d<;>dsimp only[Od,Oe,zf]at g h)|skip)|(replace h:=qd h;rcases h with⟨g,h⟩|⟨g,h⟩)
 all_goals (cases h<;>(simp only[go_sem,seval,mL, *];exact⟨_,rfl⟩))
def Bm (a0:ak)(a1:bg)(a2:List UInt8)(s0:Int×Int):Option ((Int×Int)⊕((Int×Int))):=
 cond (decide (s0.2<((a1.uses.getD []).length:Int)))
  (qa (qr (a1.uses.getD []) s0.2) fun gV=>
  qa (wM a0 gV.k) fun v20=>
  qa (qr (a0.au.getD []) v20) fun v22=>
  cond (decide (v22.kind=a2))
   (En (.inl (qe .i64 (s0.1+gV.n),qe .i64 (s0.2+1))))
   (En (.inl (s0.1,qe .i64 (s0.2+1)))))
  (En (.inr (s0.1,s0.2)))
def Oh (a0:ak)(a1:bg)(a2:List UInt8)(s0:Int×Int):aY:=⟨[(2,.str a2,I),(3,.ai (aR a0),I),(4,.ai (aU a1),I),(7,Iv s0.1,I),(8,Iv s0.2,I)],[]⟩
def Oi (a0:ak)(a1:bg)(a2:List UInt8)(d:(Int×Int)):jf×aY:=(.exit 0,⟨[(2,.str a2,I),(3,.ai (aR a0),I),(4,.ai (aU a1),I),(7,Iv d.1,I),(8,Iv d.2,I),(13,.bool I,I)],[]⟩)
theorem jw4 (a0:ak)(a1:bg)(a2:List UInt8)(s0:Int×Int)(r)(h:Bm a0 a1 a2 s0=En r):jw pr Oj (Oh a0 a1 a2) (Oi a0 a1 a2) s0 r:=by
 unfold Bm at h
 repeat' first|(replace h:=qb h;obtain⟨d,g,h⟩:=h;with_reducible first|replace g:=Jn g|skip)|(replace h:=qd h;rcases h with⟨g,h⟩|⟨g,h⟩)
 all_goals (cases h<;>((first|refine qw ?_|refine jm ?_);simp only[go_sem,seval,Oj,Oh,jg,Oi, *]<;>rfl))
theorem jv3 (a0:ak)(a1:bg)(a2:List UInt8){s0 d}(h:bu (Bm a0 a1 a2) s0=En d):X pr (.loop Oj) (Oh a0 a1 a2 s0)=En (Oi a0 a1 a2 d):=zc (jw4 a0 a1 a2) h
def Hy (a0:ak)(a1:bg)(a2:List UInt8):Option Int:=
 qa (bu (Bm a0 a1 a2) (0,0)) fun d25=>
 En d25.1
theorem zgj {a0 a1 a2 r}(h:Hy a0 a1 a2=En r):qc pr (X pr) 306 [aR a0,aU a1,.str a2]=En (Iv r,I):=by
 unfold Hy at h
 refine zh xy ?_
 repeat' first|(replace h:=qb h;obtain⟨d,g,h⟩:=h;with_reducible first|(replace g:=jv3 a0 a1 a2 g;dsimp only[Oh,Oi,zf]at g h)|skip)|(replace h:=qd h;rcases h with⟨g,h⟩|⟨g,h⟩)
 all_goals (cases h<;>(simp only[go_sem,seval,xy, *];exact⟨_,rfl⟩))
def pR (a0:ak)(a1:bg):Option bf:=
 qa (wN a0 a1.product) fun v1=>
 qa (qr (a0.ae.getD []) v1) fun v3=>
 qa (qr (v3.aH.getD []) (qe .i64 (a1.version-1))) fun v5=>
 En v5
theorem Ok {a0 a1 r}(h:pR a0 a1=En r):qc pr (X pr) 204 [aR a0,aU a1]=En (aD r,I):=by
 unfold pR at h
 refine zh tK ?_
 repeat' first|(replace h:=qb h;obtain⟨d,g,h⟩:=h;with_reducible first|replace g:=Nw g|skip)|(replace h:=qd h;rcases h with⟨g,h⟩|⟨g,h⟩)
 all_goals (cases h<;>(simp only[go_sem,seval,tK,jg, *];exact⟨_,rfl⟩))
def Bi (a0:bg)(a1:jc)(s0:Bool×Int):Option ((Bool×Int)⊕((Bool×Int))):=
 cond (decide (s0.2<((a0.results.getD []).length:Int)))
  (qa (qr (a0.results.getD []) s0.2) fun eu=>
  cond (decide (eu.k=a1.k))
   (cond (decide (eu.a=a0.version))
    (cond (decide (a1.a≤eu.b))
     (En (.inl (decide (eu.b≤a1.b),qe .i64 (s0.2+1))))
     (En (.inl (I,qe .i64 (s0.2+1)))))
    (En (.inl (s0.1,qe .i64 (s0.2+1)))))
   (En (.inl (s0.1,qe .i64 (s0.2+1)))))
  (En (.inr (s0.1,s0.2)))
def Ol (a0:bg)(a1:jc)(s0:Bool×Int):aY:=⟨[(2,.ai (aU a0),I),(3,.ai (aT a1),I),(5,.bool s0.1,I),(6,Iv s0.2,I)],[]⟩
def Om (a0:bg)(a1:jc)(d:(Bool×Int)):jf×aY:=(.exit 0,⟨[(2,.ai (aU a0),I),(3,.ai (aT a1),I),(5,.bool d.1,I),(6,Iv d.2,I),(12,.bool I,I)],[]⟩)
theorem jvf (a0:bg)(a1:jc)(s0:Bool×Int)(r)(h:Bi a0 a1 s0=En r):jw pr Oo (Ol a0 a1) (Om a0 a1) s0 r:=by
 unfold Bi at h
 repeat' first|(replace h:=qb h;obtain⟨d,g,h⟩:=h)|(replace h:=qd h;rcases h with⟨g,h⟩|⟨g,h⟩)
 all_goals (cases h<;>((first|refine qw ?_|refine jm ?_);simp only[go_sem,seval,Oo,Ol,jg,Om, *]<;>rfl))
theorem jtp (a0:bg)(a1:jc){s0 d}(h:bu (Bi a0 a1) s0=En d):X pr (.loop Oo) (Ol a0 a1 s0)=En (Om a0 a1 d):=zc (jvf a0 a1) h
def Hq (a0:bg)(a1:jc):Option Bool:=
 qa (bu (Bi a0 a1) (I,0)) fun d19=>
 En d19.1
theorem ze6 {a0 a1 r}(h:Hq a0 a1=En r):qc pr (X pr) 205 [aU a0,aT a1]=En (.bool r,I):=by
 unfold Hq at h
 refine zh xB ?_
 repeat' first|(replace h:=qb h;obtain⟨d,g,h⟩:=h;with_reducible first|(replace g:=jtp a0 a1 g;dsimp only[Ol,Om,zf]at g h)|skip)|(replace h:=qd h;rcases h with⟨g,h⟩|⟨g,h⟩)
 all_goals (cases h<;>(simp only[go_sem,seval,xB, *];exact⟨_,rfl⟩))
def D9 (a0:ak)(a1:bg):Option Int:=
 qa (wN a0 a1.product) fun v1=>
 qa (qr (a0.ae.getD []) v1) fun v3=>
 En ((v3.aH.getD []).length:Int)
theorem jq6 {a0 a1 r}(h:D9 a0 a1=En r):qc pr (X pr) 265 [aR a0,aU a1]=En (Iv r,I):=by
 unfold D9 at h
 refine zh tL ?_
 repeat' first|(replace h:=qb h;obtain⟨d,g,h⟩:=h;with_reducible first|replace g:=Nw g|skip)|(replace h:=qd h;rcases h with⟨g,h⟩|⟨g,h⟩)
 all_goals (cases h<;>(simp only[go_sem,seval,tL,jg, *];exact⟨_,rfl⟩))
def Bn (a0:ak)(a1:bg)(v1:bf)(s0:Int):Option (Int⊕(Unit⊕Int)):=
 cond (decide (s0<((v1.aB.getD []).length:Int)))
  (qa (qr (v1.aB.getD []) s0) fun ea=>
  qa (Hy a0 a1 ea.k) fun gV=>
  cond (decide (gV<ea.n))
   (En (.inr (.inl ())))
   (En (.inl (qe .i64 (s0+1)))))
  (En (.inr (.inr s0)))
def Oq (a0:ak)(a1:bg)(v1:bf)(s0:Int):aY:=⟨[(2,.ai (aR a0),I),(3,.ai (aU a1),I),(5,.ai (aD v1),I),(6,Iv s0,I)],[]⟩
def Ot (a0:ak)(a1:bg)(v1:bf):Unit⊕Int→jf×aY
 | .inl d=>(.ret,⟨[(4,.bool I,I)],[]⟩)
 | .inr d=>(.exit 0,⟨[(2,.ai (aR a0),I),(3,.ai (aU a1),I),(5,.ai (aD v1),I),(6,Iv d,I),(14,.bool I,I)],[]⟩)
theorem jsx (a0:ak)(a1:bg)(v1:bf)(s0:Int)(r)(h:Bn a0 a1 v1 s0=En r):jw pr Ou (Oq a0 a1 v1) (Ot a0 a1 v1) s0 r:=by
 unfold Bn at h
 repeat' first|(replace h:=qb h;obtain⟨d,g,h⟩:=h;with_reducible first|replace g:=zgj g|skip)|(replace h:=qd h;rcases h with⟨g,h⟩|⟨g,h⟩)
 all_goals (cases h<;>((first|refine qw ?_|refine jm ?_);simp only[go_sem,seval,Ou,Oq,jg,Ot, *]<;>rfl))
theorem jvc (a0:ak)(a1:bg)(v1:bf){s0 d}(h:bu (Bn a0 a1 v1) s0=En d):X pr (.loop Ou) (Oq a0 a1 v1 s0)=En (Ot a0 a1 v1 d):=zc (jsx a0 a1 v1) h
def HD (a0:ak)(a1:bg):Option Bool:=
 qa (pR a0 a1) fun v1=>
 qa (bu (Bn a0 a1 v1) 0) fun d21=>match d21 with
  | .inl d23=>
   En I
  | .inr d24=>
   En Ga
theorem zi5 {a0 a1 r}(h:HD a0 a1=En r):qc pr (X pr) 299 [aR a0,aU a1]=En (.bool r,I):=by
 unfold HD at h
 refine zh xC ?_
 repeat' first|(replace h:=qb h;obtain⟨d,g,h⟩:=h;with_reducible first|replace g:=Ok g|(replace g:=jvc a0 a1 _ g;rcases d with d|d<;>dsimp only[Oq,Ot,zf]at g h)|skip)|(replace h:=qd h;rcases h with⟨g,h⟩|⟨g,h⟩)
 all_goals (cases h<;>(simp only[go_sem,seval,xC, *];exact⟨_,rfl⟩))
def Bl (a1:bg)(v1:bf)(s0:(Option (List (List UInt8)))×Int×Bool):Option (((Option (List (List UInt8)))×Int×Bool)⊕(((Option (List (List UInt8)))×Bool×Int))):=
 cond (decide (s0.2.1<((v1.aA.getD []).length:Int)))
  (qa (qr (v1.aA.getD []) s0.2.1) fun v22=>
  qa (Hq a1 v22) fun v24=>
  cond v24
   (En (.inl (s0.1,qe .i64 (s0.2.1+1),s0.2.2)))
   (cond s0.2.2
    (qa (bB s0.1 [v22.k]) fun v28=>
    En (.inl (v28,qe .i64 (s0.2.1+1),Ga)))
    (cond s0.1.isNone
     (qa (bB s0.1 [v22.k]) fun v31=>
     En (.inl (v31,qe .i64 (s0.2.1+1),Ga)))
     (Gb))))
  (En (.inr (s0.1,s0.2.2,s0.2.1)))
def Ov (a1:bg)(v1:bf)(s0:(Option (List (List UInt8)))×Int×Bool):aY:=⟨[(3,.ai (aU a1),I),(5,.ai (aD v1),I),(6,sl 1 yl s0.1,s0.2.2),(7,Iv s0.2.1,I)],[]⟩
def Ow (a1:bg)(v1:bf)(d:((Option (List (List UInt8)))×Bool×Int)):jf×aY:=(.exit 0,⟨[(3,.ai (aU a1),I),(5,.ai (aD v1),I),(6,sl 1 yl d.1,d.2.1),(7,Iv d.2.2,I),(15,.bool I,I)],[]⟩)
theorem ju7 (a1:bg)(v1:bf)(s0:(Option (List (List UInt8)))×Int×Bool)(r)(h:Bl a1 v1 s0=En r):jw pr Ox (Ov a1 v1) (Ow a1 v1) s0 r:=by
 unfold Bl at h
 repeat' first|(replace h:=qb h;obtain⟨d,g,h⟩:=h;with_reducible first|replace g:=ze6 g|replace g:=q8f g|skip)|(replace h:=qd h;rcases h with⟨g,h⟩|⟨g,h⟩)
 all_goals (cases h<;>((first|refine qw ?_|refine jm ?_);simp only[go_sem,seval,Ox,Ov,jg,Ow, *]<;>rfl))
theorem jry (a1:bg)(v1:bf){s0 d}(h:bu (Bl a1 v1) s0=En d):X pr (.loop Ox) (Ov a1 v1 s0)=En (Ow a1 v1 d):=zc (ju7 a1 v1) h
def Hw (a0:ak)(a1:bg):Option ((Option (List (List UInt8)))×Bool):=
 qa (pR a0 a1) fun v1=>
 qa (bu (Bl a1 v1) (Gb,0,I)) fun d33=>
 En (d33.1,d33.2.1)
theorem zhg {a0 a1 r}(h:Hw a0 a1=En r):qc pr (X pr) 154 [aR a0,aU a1]=En (sl 1 yl r.1,r.2):=by
 unfold Hw at h
 refine kg xD ?_
 repeat' first|(replace h:=qb h;obtain⟨d,g,h⟩:=h;with_reducible first|replace g:=Ok g|(replace g:=jry a1 _ g;dsimp only[Ov,Ow,zf]at g h)|skip)|(replace h:=qd h;rcases h with⟨g,h⟩|⟨g,h⟩)
 all_goals (cases h<;>(simp only[go_sem,seval,xD, *];exact⟨_,rfl⟩))
def zA (a0:ak)(a1:bg)(s0:Int):Option (Int⊕(Unit⊕Int)):=
 cond (decide (s0<((a1.uses.getD []).length:Int)))
  (qa (qr (a1.uses.getD []) s0) fun v28=>
  qa (wM a0 v28.k) fun v30=>
  qa (qr (a0.au.getD []) v30) fun lu=>
  cond lu.held
   (En (.inr (.inl ())))
   (En (.inl (qe .i64 (s0+1)))))
  (En (.inr (.inr s0)))
def Oy (a0:ak)(a1:bg)(s0:Int):aY:=⟨[(2,.ai (aR a0),I),(3,.ai (.agg [.str a1.name,.str a1.product,Iv a1.version,sl 2 bp a1.uses,sl 3 jb a1.results,.str a1.partner,.bool I,Iv a1.ah]),I),(5,Iv s0,I)],[]⟩
def Oz (a0:ak)(a1:bg):Unit⊕Int→jf×aY
 | .inl d=>(.ret,⟨[(4,Iv 34,I)],[]⟩)
 | .inr d=>(.exit 0,⟨[(2,.ai (aR a0),I),(3,.ai (.agg [.str a1.name,.str a1.product,Iv a1.version,sl 2 bp a1.uses,sl 3 jb a1.results,.str a1.partner,.bool I,Iv a1.ah]),I),(5,Iv d,I),(27,.bool I,I)],[]⟩)
theorem jrb (a0:ak)(a1:bg)(s0:Int)(r)(h:zA a0 a1 s0=En r):jw pr OA (Oy a0 a1) (Oz a0 a1) s0 r:=by
 unfold zA at h
 repeat' first|(replace h:=qb h;obtain⟨d,g,h⟩:=h;with_reducible first|replace g:=Jn g|skip)|(replace h:=qd h;rcases h with⟨g,h⟩|⟨g,h⟩)
 all_goals (cases h<;>((first|refine qw ?_|refine jm ?_);simp only[go_sem,seval,OA,Oy,jg,Oz, *]<;>rfl))
theorem jvj (a0:ak)(a1:bg){s0 d}(h:bu (zA a0 a1) s0=En d):X pr (.loop OA) (Oy a0 a1 s0)=En (Oz a0 a1 d):=zc (jrb a0 a1) h
def f266 (a0:ak)(a1:bg):Option Int:=
 cond a1.ar
  (En 21)
  (qa (D9 a0 (⟨a1.name,a1.product,a1.version,a1.uses,a1.results,a1.partner,I,a1.ah⟩)) fun v2=>
  cond (decide (a1.version=v2))
   (qa (HD a0 (⟨a1.name,a1.product,a1.version,a1.uses,a1.results,a1.partner,I,a1.ah⟩)) fun v5=>
   cond v5
    (qa (Hw a0 (⟨a1.name,a1.product,a1.version,a1.uses,a1.results,a1.partner,I,a1.ah⟩)) fun v8=>
    cond (decide (0<((v8.1.getD []).length:Int)))
     (En 31)
     (qa (bu (zA a0 a1) 0) fun d35=>match d35 with
      | .inl d37=>
       En 34
      | .inr d38=>
       En 0))
    (En 20))
   (En 32))
theorem zhf {a0 a1 r}(h:f266 a0 a1=En r):qc pr (X pr) 266 [.agg [.int .i64 a0.day,sl 5 jd a0.au,sl 4 qu a0.ae,sl 8 bD a0.units],.agg [.str a1.name,.str a1.product,.int .i64 a1.version,sl 2 bp a1.uses,sl 3 jb a1.results,.str a1.partner,.bool a1.ar,.int .i64 a1.ah]]=En (.int .i64 r,I):=by
 unfold f266 at h
 refine zh xE ?_
 repeat' first|(replace h:=qb h;obtain⟨d,g,h⟩:=h;with_reducible first|replace g:=jq6 g|replace g:=zi5 g|replace g:=zhg g|(replace g:=jvj a0 a1 g;rcases d with d|d<;>dsimp only[Oy,Oz,zf]at g h)|skip)|(replace h:=qd h;rcases h with⟨g,h⟩|⟨g,h⟩)
 all_goals (cases h<;>(simp only[go_sem,seval,xE, *];exact⟨_,rfl⟩))
end Go.Z
namespace Go.Z
open Go Go.Abs Go.W
def Iy (a0:bf)(s0:Int×(Option (List bn))×Bool):Option ((Int×(Option (List bn))×Bool)⊕((Int×(Option (List bn))×Bool))):=
 cond (decide (s0.1<((a0.aB.getD []).length:Int)))
  (qa (qr (a0.aB.getD []) s0.1) fun eu=>
  cond s0.2.2
   (qa (bB s0.2.1 [eu]) fun gC=>
   En (.inl (qe .i64 (s0.1+1),gC,Ga)))
   (cond s0.2.1.isNone
    (qa (bB s0.2.1 [eu]) fun v20=>
    En (.inl (qe .i64 (s0.1+1),v20,Ga)))
    (Gb)))
  (En (.inr (s0.1,s0.2.1,s0.2.2)))
def OB (a0:bf)(s0:Int×(Option (List bn))×Bool):aY:=⟨[(1,.ai (aD a0),I),(2,.ptr 0 0,I),(3,.ptr 1 0,I),(9,sl 2 bp a0.aB,I),(10,Lv a0.aB,I),(11,Iv s0.1,I)],[.cells [(Nl,I),(Nl,I)],.cells [(sl 2 bp s0.2.1,s0.2.2),(Nl,I)]]⟩
def OC (a0:bf)(d:(Int×(Option (List bn))×Bool)):jf×aY:=(.exit 0,⟨[(1,.ai (aD a0),I),(2,.ptr 0 0,I),(3,.ptr 1 0,I),(9,sl 2 bp a0.aB,I),(10,Lv a0.aB,I),(11,Iv d.1,I),(12,.bool I,I)],[.cells [(Nl,I),(Nl,I)],.cells [(sl 2 bp d.2.1,d.2.2),(Nl,I)]]⟩)
theorem jwv (a0:bf)(s0:Int×(Option (List bn))×Bool)(r)(h:Iy a0 s0=En r):jw pr OD (OB a0) (OC a0) s0 r:=by
 unfold Iy at h
 repeat' first|(replace h:=qb h;obtain⟨d,g,h⟩:=h;with_reducible first|replace g:=wJ g|skip)|(replace h:=qd h;rcases h with⟨g,h⟩|⟨g,h⟩)
 all_goals (cases h<;>((first|refine qw ?_|refine jm ?_);simp only[go_sem,seval,OD,OB,jg,OC, *]<;>rfl))
theorem jwa (a0:bf){s0 d}(h:bu (Iy a0) s0=En d):X pr (.loop OD) (OB a0 s0)=En (OC a0 d):=zc (jwv a0) h
def Iz (a0:bf)(d22:Int×(Option (List bn))×Bool)(s1:Int×(Option (List jc))×Bool):Option ((Int×(Option (List jc))×Bool)⊕((Int×(Option (List jc))×Bool))):=
 cond (decide (s1.1<((a0.aA.getD []).length:Int)))
  (qa (qr (a0.aA.getD []) s1.1) fun v37=>
  cond s1.2.2
   (qa (bB s1.2.1 [v37]) fun v40=>
   En (.inl (qe .i64 (s1.1+1),v40,Ga)))
   (cond s1.2.1.isNone
    (qa (bB s1.2.1 [v37]) fun mN=>
    En (.inl (qe .i64 (s1.1+1),mN,Ga)))
    (Gb)))
  (En (.inr (s1.1,s1.2.1,s1.2.2)))
def OE (a0:bf)(d22:Int×(Option (List bn))×Bool)(s1:Int×(Option (List jc))×Bool):aY:=⟨[(2,.ptr 0 0,I),(3,.ptr 1 0,I),(23,sl 3 jb a0.aA,I),(24,Lv a0.aA,I),(25,Iv s1.1,I)],[.cells [(Nl,I),(Nl,I)],.cells [(sl 2 bp d22.2.1,d22.2.2),(sl 3 jb s1.2.1,s1.2.2)]]⟩
def OG (a0:bf)(d22:Int×(Option (List bn))×Bool)(d:(Int×(Option (List jc))×Bool)):jf×aY:=(.exit 2,⟨[(2,.ptr 0 0,I),(3,.ptr 1 0,I),(23,sl 3 jb a0.aA,I),(24,Lv a0.aA,I),(25,Iv d.1,I),(26,.bool I,I)],[.cells [(Nl,I),(Nl,I)],.cells [(sl 2 bp d22.2.1,d22.2.2),(sl 3 jb d.2.1,d.2.2)]]⟩)
theorem jwk (a0:bf)(d22:Int×(Option (List bn))×Bool)(s1:Int×(Option (List jc))×Bool)(r)(h:Iz a0 d22 s1=En r):jw pr OH (OE a0 d22) (OG a0 d22) s1 r:=by
 unfold Iz at h
 repeat' first|(replace h:=qb h;obtain⟨d,g,h⟩:=h;with_reducible first|replace g:=yS g|skip)|(replace h:=qd h;rcases h with⟨g,h⟩|⟨g,h⟩)
 all_goals (cases h<;>((first|refine qw ?_|refine jm ?_);simp only[go_sem,seval,OH,OE,jg,OG, *]<;>rfl))
theorem jwn (a0:bf)(d22:Int×(Option (List bn))×Bool){s1 d}(h:bu (Iz a0 d22) s1=En d):X pr (.loop OH) (OE a0 d22 s1)=En (OG a0 d22 d):=zc (jwk a0 d22) h
def BQ (a0:bf):Option bf:=
 qa (bu (Iy a0) (0,Gb,I)) fun d22=>
 qa (bu (Iz a0 d22) (0,Gb,I)) fun d45=>
 En (⟨d22.2.1,d45.2.1⟩)
theorem jsn {a0 r}(h:BQ a0=En r):qc pr (X pr) 117 [aD a0]=En (aD r,I):=by
 unfold BQ at h
 refine zh tM ?_
 repeat' first|(replace h:=qb h;obtain⟨d,g,h⟩:=h;with_reducible first|(replace g:=jwa a0 g;dsimp only[OB,OC,zf]at g h)|(replace g:=jwn a0 _ g;dsimp only[OE,OG,zf]at g h)|skip)|(replace h:=qd h;rcases h with⟨g,h⟩|⟨g,h⟩)
 all_goals (cases h<;>(simp only[go_sem,seval,tM, *];exact⟨_,rfl⟩))
def IA (a0:aC)(v1:bf)(s0:Int×(Option (List bf))×Bool):Option ((Int×(Option (List bf))×Bool)⊕((Int×(Option (List bf))×Bool))):=
 cond (decide (s0.1<((a0.aH.getD []).length:Int)))
  (qa (qr (a0.aH.getD []) s0.1) fun v20=>
  qa (BQ v20) fun v22=>
  cond s0.2.2
   (qa (bB s0.2.1 [v22]) fun v25=>
   En (.inl (qe .i64 (s0.1+1),v25,Ga)))
   (cond s0.2.1.isNone
    (qa (bB s0.2.1 [v22]) fun v28=>
    En (.inl (qe .i64 (s0.1+1),v28,Ga)))
    (Gb)))
  (En (.inr (s0.1,s0.2.1,s0.2.2)))
def OI (a0:aC)(v1:bf)(s0:Int×(Option (List bf))×Bool):aY:=⟨[(2,.ptr 0 0,I),(3,.ptr 1 0,I),(13,sl 2 yf a0.aH,I),(14,Lv a0.aH,I),(15,Iv s0.1,I)],[.cells [(.str [],I),(Nl,I),(Nl,I),(Nl,I)],.cells [(.str a0.name,I),(sl 2 bp v1.aB,I),(sl 3 jb v1.aA,I),(sl 2 yf s0.2.1,s0.2.2)]]⟩
def OJ (a0:aC)(v1:bf)(d:(Int×(Option (List bf))×Bool)):jf×aY:=(.exit 0,⟨[(2,.ptr 0 0,I),(3,.ptr 1 0,I),(13,sl 2 yf a0.aH,I),(14,Lv a0.aH,I),(15,Iv d.1,I),(16,.bool I,I)],[.cells [(.str [],I),(Nl,I),(Nl,I),(Nl,I)],.cells [(.str a0.name,I),(sl 2 bp v1.aB,I),(sl 3 jb v1.aA,I),(sl 2 yf d.2.1,d.2.2)]]⟩)
theorem j3k (a0:aC)(v1:bf)(s0:Int×(Option (List bf))×Bool)(r)(h:IA a0 v1 s0=En r):jw pr OL (OI a0 v1) (OJ a0 v1) s0 r:=by
 unfold IA at h
 repeat' first|(replace h:=qb h;obtain⟨d,g,h⟩:=h;with_reducible first|replace g:=jsn g|replace g:=Ts g|skip)|(replace h:=qd h;rcases h with⟨g,h⟩|⟨g,h⟩)
 all_goals (cases h<;>((first|refine qw ?_|refine jm ?_);simp only[go_sem,seval,OL,OI,jg,OJ, *]<;>rfl))
theorem j1e (a0:aC)(v1:bf){s0 d}(h:bu (IA a0 v1) s0=En d):X pr (.loop OL) (OI a0 v1 s0)=En (OJ a0 v1 d):=zc (j3k a0 v1) h
def f58 (a0:aC):Option aC:=
 qa (BQ (⟨a0.dn,a0.dt⟩)) fun v1=>
 qa (bu (IA a0 v1) (0,Gb,I)) fun d30=>
 En (⟨a0.name,v1.aB,v1.aA,d30.2.1⟩)
theorem W58 {a0 r}(h:f58 a0=En r):qc pr (X pr) 58 [aP a0]=En (aP r,I):=by
 unfold f58 at h
 refine zh JB ?_
 repeat' first|(replace h:=qb h;obtain⟨d,g,h⟩:=h;with_reducible first|replace g:=jsn g|(replace g:=j1e a0 _ g;dsimp only[OI,OJ,zf]at g h)|skip)|(replace h:=qd h;rcases h with⟨g,h⟩|⟨g,h⟩)
 all_goals (cases h<;>(simp only[go_sem,seval,JB, *];exact⟨_,rfl⟩))
def IB (a0:bg)(s0:Int×(Option (List bn))×Bool):Option ((Int×(Option (List bn))×Bool)⊕((Int×(Option (List bn))×Bool))):=
 cond (decide (s0.1<((a0.uses.getD []).length:Int)))
  (qa (qr (a0.uses.getD []) s0.1) fun eu=>
  cond s0.2.2
   (qa (bB s0.2.1 [eu]) fun gC=>
   En (.inl (qe .i64 (s0.1+1),gC,Ga)))
   (cond s0.2.1.isNone
    (qa (bB s0.2.1 [eu]) fun v20=>
    En (.inl (qe .i64 (s0.1+1),v20,Ga)))
    (Gb)))
  (En (.inr (s0.1,s0.2.1,s0.2.2)))
def OM (a0:bg)(s0:Int×(Option (List bn))×Bool):aY:=⟨[(1,.ai (aU a0),I),(2,.ptr 0 0,I),(3,.ptr 1 0,I),(22,sl 2 bp a0.uses,I),(23,Lv a0.uses,I),(24,Iv s0.1,I)],[.cells [(.str [],I),(.str [],I),(Iv 0,I),(Nl,I),(Nl,I),(.str [],I),(.bool I,I),(Iv 0,I)],.cells [(.str a0.name,I),(.str a0.product,I),(Iv a0.version,I),(sl 2 bp s0.2.1,s0.2.2),(Nl,I),(.str a0.partner,I),(.bool a0.ar,I),(Iv a0.ah,I)]]⟩
def OO (a0:bg)(d:(Int×(Option (List bn))×Bool)):jf×aY:=(.exit 0,⟨[(1,.ai (aU a0),I),(2,.ptr 0 0,I),(3,.ptr 1 0,I),(22,sl 2 bp a0.uses,I),(23,Lv a0.uses,I),(24,Iv d.1,I),(25,.bool I,I)],[.cells [(.str [],I),(.str [],I),(Iv 0,I),(Nl,I),(Nl,I),(.str [],I),(.bool I,I),(Iv 0,I)],.cells [(.str a0.name,I),(.str a0.product,I),(Iv a0.version,I),(sl 2 bp d.2.1,d.2.2),(Nl,I),(.str a0.partner,I),(.bool a0.ar,I),(Iv a0.ah,I)]]⟩)
theorem j28 (a0:bg)(s0:Int×(Option (List bn))×Bool)(r)(h:IB a0 s0=En r):jw pr OP (OM a0) (OO a0) s0 r:=by
 unfold IB at h
 repeat' first|(replace h:=qb h;obtain⟨d,g,h⟩:=h;with_reducible first|replace g:=wJ g|skip)|(replace h:=qd h;rcases h with⟨g,h⟩|⟨g,h⟩)
 all_goals (cases h<;>((first|refine qw ?_|refine jm ?_);simp only[go_sem,seval,OP,OM,jg,OO, *]<;>rfl))
theorem j16 (a0:bg){s0 d}(h:bu (IB a0) s0=En d):X pr (.loop OP) (OM a0 s0)=En (OO a0 d):=zc (j28 a0) h
def IC (a0:bg)(d22:Int×(Option (List bn))×Bool)(s1:Int×(Option (List jc))×Bool):Option ((Int×(Option (List jc))×Bool)⊕((Int×(Option (List jc))×Bool))):=
 cond (decide (s1.1<((a0.results.getD []).length:Int)))
  (qa (qr (a0.results.getD []) s1.1) fun v37=>
  cond s1.2.2
   (qa (bB s1.2.1 [v37]) fun v40=>
   En (.inl (qe .i64 (s1.1+1),v40,Ga)))
   (cond s1.2.1.isNone
    (qa (bB s1.2.1 [v37]) fun mN=>
    En (.inl (qe .i64 (s1.1+1),mN,Ga)))
    (Gb)))
  (En (.inr (s1.1,s1.2.1,s1.2.2)))
def OQ (a0:bg)(d22:Int×(Option (List bn))×Bool)(s1:Int×(Option (List jc))×Bool):aY:=⟨[(2,.ptr 0 0,I),(3,.ptr 1 0,I),(36,sl 3 jb a0.results,I),(37,Lv a0.results,I),(38,Iv s1.1,I)],[.cells [(.str [],I),(.str [],I),(Iv 0,I),(Nl,I),(Nl,I),(.str [],I),(.bool I,I),(Iv 0,I)],.cells [(.str a0.name,I),(.str a0.product,I),(Iv a0.version,I),(sl 2 bp d22.2.1,d22.2.2),(sl 3 jb s1.2.1,s1.2.2),(.str a0.partner,I),(.bool a0.ar,I),(Iv a0.ah,I)]]⟩
def OS (a0:bg)(d22:Int×(Option (List bn))×Bool)(d:(Int×(Option (List jc))×Bool)):jf×aY:=(.exit 2,⟨[(2,.ptr 0 0,I),(3,.ptr 1 0,I),(36,sl 3 jb a0.results,I),(37,Lv a0.results,I),(38,Iv d.1,I),(39,.bool I,I)],[.cells [(.str [],I),(.str [],I),(Iv 0,I),(Nl,I),(Nl,I),(.str [],I),(.bool I,I),(Iv 0,I)],.cells [(.str a0.name,I),(.str a0.product,I),(Iv a0.version,I),(sl 2 bp d22.2.1,d22.2.2),(sl 3 jb d.2.1,d.2.2),(.str a0.partner,I),(.bool a0.ar,I),(Iv a0.ah,I)]]⟩)
theorem j3b (a0:bg)(d22:Int×(Option (List bn))×Bool)(s1:Int×(Option (List jc))×Bool)(r)(h:IC a0 d22 s1=En r):jw pr OT (OQ a0 d22) (OS a0 d22) s1 r:=by
 unfold IC at h
 repeat' first|(replace h:=qb h;obtain⟨d,g,h⟩:=h;with_reducible first|replace g:=yS g|skip)|(replace h:=qd h;rcases h with⟨g,h⟩|⟨g,h⟩)
 all_goals (cases h<;>((first|refine qw ?_|refine jm ?_);simp only[go_sem,seval,OT,OQ,jg,OS, *]<;>rfl))
theorem j3d (a0:bg)(d22:Int×(Option (List bn))×Bool){s1 d}(h:bu (IC a0 d22) s1=En d):X pr (.loop OT) (OQ a0 d22 s1)=En (OS a0 d22 d):=zc (j3b a0 d22) h
def f59 (a0:bg):Option bg:=
 qa (bu (IB a0) (0,Gb,I)) fun d22=>
 qa (bu (IC a0 d22) (0,Gb,I)) fun d45=>
 En (⟨a0.name,a0.product,a0.version,d22.2.1,d45.2.1,a0.partner,a0.ar,a0.ah⟩)
theorem W59 {a0 r}(h:f59 a0=En r):qc pr (X pr) 59 [aU a0]=En (aU r,I):=by
 unfold f59 at h
 refine zh JC ?_
 repeat' first|(replace h:=qb h;obtain⟨d,g,h⟩:=h;with_reducible first|(replace g:=j16 a0 g;dsimp only[OM,OO,zf]at g h)|(replace g:=j3d a0 _ g;dsimp only[OQ,OS,zf]at g h)|skip)|(replace h:=qd h;rcases h with⟨g,h⟩|⟨g,h⟩)
 all_goals (cases h<;>(simp only[go_sem,seval,JC, *];exact⟨_,rfl⟩))
def IE (a0:ak)(s0:Int×(Option (List je))×Bool):Option ((Int×(Option (List je))×Bool)⊕((Int×(Option (List je))×Bool))):=
 cond (decide (s0.1<((a0.au.getD []).length:Int)))
  (qa (qr (a0.au.getD []) s0.1) fun eu=>
  cond s0.2.2
   (qa (bB s0.2.1 [eu]) fun gC=>
   En (.inl (qe .i64 (s0.1+1),gC,Ga)))
   (cond s0.2.1.isNone
    (qa (bB s0.2.1 [eu]) fun v20=>
    En (.inl (qe .i64 (s0.1+1),v20,Ga)))
    (Gb)))
  (En (.inr (s0.1,s0.2.1,s0.2.2)))
def OU (a0:ak)(s0:Int×(Option (List je))×Bool):aY:=⟨[(1,.ai (aR a0),I),(2,.ptr 0 0,I),(3,.ptr 1 0,I),(14,sl 5 jd a0.au,I),(15,Lv a0.au,I),(16,Iv s0.1,I)],[kZ,.cells [(Iv a0.day,I),(sl 5 jd s0.2.1,s0.2.2),(Nl,I),(Nl,I)]]⟩
def OV (a0:ak)(d:(Int×(Option (List je))×Bool)):jf×aY:=(.exit 0,⟨[(1,.ai (aR a0),I),(2,.ptr 0 0,I),(3,.ptr 1 0,I),(14,sl 5 jd a0.au,I),(15,Lv a0.au,I),(16,Iv d.1,I),(17,.bool I,I)],[kZ,.cells [(Iv a0.day,I),(sl 5 jd d.2.1,d.2.2),(Nl,I),(Nl,I)]]⟩)
theorem j2d (a0:ak)(s0:Int×(Option (List je))×Bool)(r)(h:IE a0 s0=En r):jw pr OW (OU a0) (OV a0) s0 r:=by
 unfold IE at h
 repeat' first|(replace h:=qb h;obtain⟨d,g,h⟩:=h;with_reducible first|replace g:=LJ g|skip)|(replace h:=qd h;rcases h with⟨g,h⟩|⟨g,h⟩)
 all_goals (cases h<;>((first|refine qw ?_|refine jm ?_);simp only[go_sem,seval,OW,OU,jg,OV, *]<;>rfl))
theorem j11 (a0:ak){s0 d}(h:bu (IE a0) s0=En d):X pr (.loop OW) (OU a0 s0)=En (OV a0 d):=zc (j2d a0) h
def IF (a0:ak)(d22:Int×(Option (List je))×Bool)(s1:Int×(Option (List aC))×Bool):Option ((Int×(Option (List aC))×Bool)⊕((Int×(Option (List aC))×Bool))):=
 cond (decide (s1.1<((a0.ae.getD []).length:Int)))
  (qa (qr (a0.ae.getD []) s1.1) fun du=>
  qa (f58 du) fun mN=>
  cond s1.2.2
   (qa (bB s1.2.1 [mN]) fun v46=>
   En (.inl (qe .i64 (s1.1+1),v46,Ga)))
   (cond s1.2.1.isNone
    (qa (bB s1.2.1 [mN]) fun v49=>
    En (.inl (qe .i64 (s1.1+1),v49,Ga)))
    (Gb)))
  (En (.inr (s1.1,s1.2.1,s1.2.2)))
def OX (a0:ak)(d22:Int×(Option (List je))×Bool)(s1:Int×(Option (List aC))×Bool):aY:=⟨[(1,.ai (aR a0),I),(2,.ptr 0 0,I),(3,.ptr 1 0,I),(28,sl 4 qu a0.ae,I),(29,Lv a0.ae,I),(30,Iv s1.1,I)],[kZ,.cells [(Iv a0.day,I),(sl 5 jd d22.2.1,d22.2.2),(sl 4 qu s1.2.1,s1.2.2),(Nl,I)]]⟩
def OY (a0:ak)(d22:Int×(Option (List je))×Bool)(d:(Int×(Option (List aC))×Bool)):jf×aY:=(.exit 2,⟨[(1,.ai (aR a0),I),(2,.ptr 0 0,I),(3,.ptr 1 0,I),(28,sl 4 qu a0.ae,I),(29,Lv a0.ae,I),(30,Iv d.1,I),(31,.bool I,I)],[kZ,.cells [(Iv a0.day,I),(sl 5 jd d22.2.1,d22.2.2),(sl 4 qu d.2.1,d.2.2),(Nl,I)]]⟩)
theorem j8h (a0:ak)(d22:Int×(Option (List je))×Bool)(s1:Int×(Option (List aC))×Bool)(r)(h:IF a0 d22 s1=En r):jw pr OZ (OX a0 d22) (OY a0 d22) s1 r:=by
 unfold IF at h
 repeat' first|(replace h:=qb h;obtain⟨d,g,h⟩:=h;with_reducible first|replace g:=W58 g|replace g:=Tt g|skip)|(replace h:=qd h;rcases h with⟨g,h⟩|⟨g,h⟩)
 all_goals (cases h<;>((first|refine qw ?_|refine jm ?_);simp only[go_sem,seval,OZ,OX,jg,OY, *]<;>rfl))
theorem j7b (a0:ak)(d22:Int×(Option (List je))×Bool){s1 d}(h:bu (IF a0 d22) s1=En d):X pr (.loop OZ) (OX a0 d22 s1)=En (OY a0 d22 d):=zc (j8h a0 d22) h
def IG (a0:ak)(d22:Int×(Option (List je))×Bool)(d51:Int×(Option (List aC))×Bool)(s2:Int×(Option (List bg))×Bool):Option ((Int×(Option (List bg))×Bool)⊕((Int×(Option (List bg))×Bool))):=
 cond (decide (s2.1<((a0.units.getD []).length:Int)))
  (qa (qr (a0.units.getD []) s2.1) fun v70=>
  qa (f59 v70) fun v72=>
  cond s2.2.2
   (qa (bB s2.2.1 [v72]) fun v75=>
   En (.inl (qe .i64 (s2.1+1),v75,Ga)))
   (cond s2.2.1.isNone
    (qa (bB s2.2.1 [v72]) fun Nz=>
    En (.inl (qe .i64 (s2.1+1),Nz,Ga)))
    (Gb)))
  (En (.inr (s2.1,s2.2.1,s2.2.2)))
def O0 (a0:ak)(d22:Int×(Option (List je))×Bool)(d51:Int×(Option (List aC))×Bool)(s2:Int×(Option (List bg))×Bool):aY:=⟨[(2,.ptr 0 0,I),(3,.ptr 1 0,I),(43,sl 8 bD a0.units,I),(44,Lv a0.units,I),(45,Iv s2.1,I)],[kZ,.cells [(Iv a0.day,I),(sl 5 jd d22.2.1,d22.2.2),(sl 4 qu d51.2.1,d51.2.2),(sl 8 bD s2.2.1,s2.2.2)]]⟩
def O1 (a0:ak)(d22:Int×(Option (List je))×Bool)(d51:Int×(Option (List aC))×Bool)(d:(Int×(Option (List bg))×Bool)):jf×aY:=(.exit 4,⟨[(2,.ptr 0 0,I),(3,.ptr 1 0,I),(43,sl 8 bD a0.units,I),(44,Lv a0.units,I),(45,Iv d.1,I),(46,.bool I,I)],[kZ,.cells [(Iv a0.day,I),(sl 5 jd d22.2.1,d22.2.2),(sl 4 qu d51.2.1,d51.2.2),(sl 8 bD d.2.1,d.2.2)]]⟩)
theorem j6k (a0:ak)(d22:Int×(Option (List je))×Bool)(d51:Int×(Option (List aC))×Bool)(s2:Int×(Option (List bg))×Bool)(r)(h:IG a0 d22 d51 s2=En r):jw pr O2 (O0 a0 d22 d51) (O1 a0 d22 d51) s2 r:=by
 unfold IG at h
 repeat' first|(replace h:=qb h;obtain⟨d,g,h⟩:=h;with_reducible first|replace g:=W59 g|replace g:=Tv g|skip)|(replace h:=qd h;rcases h with⟨g,h⟩|⟨g,h⟩)
 all_goals (cases h<;>((first|refine qw ?_|refine jm ?_);simp only[go_sem,seval,O2,O0,jg,O1, *]<;>rfl))
theorem j0d (a0:ak)(d22:Int×(Option (List je))×Bool)(d51:Int×(Option (List aC))×Bool){s2 d}(h:bu (IG a0 d22 d51) s2=En d):X pr (.loop O2) (O0 a0 d22 d51 s2)=En (O1 a0 d22 d51 d):=zc (j6k a0 d22 d51) h
def f18 (a0:ak):Option ak:=
 qa (bu (IE a0) (0,Gb,I)) fun d22=>
 qa (bu (IF a0 d22) (0,Gb,I)) fun d51=>
 qa (bu (IG a0 d22 d51) (0,Gb,I)) fun d80=>
 En (⟨a0.day,d22.2.1,d51.2.1,d80.2.1⟩)
theorem W18 {a0 r}(h:f18 a0=En r):qc pr (X pr) 18 [aR a0]=En (aR r,I):=by
 unfold f18 at h
 refine zh JD ?_
 repeat' first|(replace h:=qb h;obtain⟨d,g,h⟩:=h;with_reducible first|(replace g:=j11 a0 g;dsimp only[OU,OV,zf]at g h)|(replace g:=j7b a0 _ g;dsimp only[OX,OY,zf]at g h)|(replace g:=j0d a0 _ _ g;dsimp only[O0,O1,zf]at g h)|skip)|(replace h:=qd h;rcases h with⟨g,h⟩|⟨g,h⟩)
 all_goals (cases h<;>(simp only[go_sem,seval,JD, *];exact⟨_,rfl⟩))
end Go.Z
namespace Go.Z
open Go Go.Abs Go.W
def f88 (a0:Int)(a1:Int)(a2:Int):Option Bool:=
 cond (decide (a0<a1))
  (En Ga)
  (En (decide (a2<a0)))
theorem Yc {a0 a1 a2 r}(h:f88 a0 a1 a2=En r):qc pr (X pr) 88 [Iv a0,Iv a1,Iv a2]=En (.bool r,I):=by
 unfold f88 at h
 refine zh JE ?_
 repeat' first|(replace h:=qd h;rcases h with⟨g,h⟩|⟨g,h⟩)
 all_goals (cases h<;>(simp only[go_sem,seval,JE, *];exact⟨_,rfl⟩))
end Go.Z
namespace Go.Z
open Go Go.Abs Go.W
def LO (a0:Int)(a1:ak)(a2:List UInt8):Option Bool:=
 qa (qr (a1.au.getD []) a0) fun v1=>
 En (decide (v1.name=a2))
theorem zeu (hp:qi){a0 a1 a2 r}(h:LO a0 a1 a2=En r):qo pr (X pr) 119 [Iv a0,.ai (aR a1),.ai (.str a2)] hp=En (.bool r,I,hp):=by
 unfold LO at h
 obtain⟨v1,h2,h⟩:=qb h
 have hr:decide (v1.name=a2)=r:=En.inj h
 subst hr
 rw[ql (show pr.bO 119=En tN from rfl) (by simp)]
 simp only[go_sem,seval,tN,zj h2]<;>rfl
def Hk (a0:Int)(av:ak)(bW:List UInt8)(s0:Int):Option (Int⊕(Int⊕Int)):=
 cond (decide (s0<a0))
  (qa (LO s0 av bW) fun v10=>
  cond v10
   (En (.inr (.inl s0)))
   (En (.inl (qe .i64 (s0+1)))))
  (En (.inr (.inr s0)))
def O3 (a0:Int)(av:ak)(bW:List UInt8)(s0:Int):aY:=⟨[(1,.fn (.func 119) [] [.ai (aR av),.ai (.str bW)],I),(5,Iv (-1),I),(7,Iv a0,I),(8,Iv s0,I)],[]⟩
def O4 (a0:Int)(av:ak)(bW:List UInt8):Int⊕Int→jf×aY
 | .inl d=>(.exit 0,⟨[(5,Iv d,I)],[]⟩)
 | .inr d=>(.exit 0,⟨[(1,.fn (.func 119) [] [.ai (aR av),.ai (.str bW)],I),(5,Iv (-1),I),(7,Iv a0,I),(8,Iv d,I),(9,.bool I,I)],[]⟩)
theorem jn9 (a0:Int)(av:ak)(bW:List UInt8)(s0:Int)(r)(h:Hk a0 av bW s0=En r):jw pr vY (O3 a0 av bW) (O4 a0 av bW) s0 r:=by
 unfold Hk at h
 repeat' first|(replace h:=qb h;obtain⟨d,g,h⟩:=h;with_reducible first|replace g:=zeu [] g|skip)|(replace h:=qd h;rcases h with⟨g,h⟩|⟨g,h⟩)
 all_goals (cases h<;>((first|refine qw ?_|refine jm ?_);simp only[go_sem,seval,vY,O3,O4, *]<;>rfl))
theorem jqg (a0:Int)(av:ak)(bW:List UInt8){s0 d}(h:bu (Hk a0 av bW) s0=En d):X pr (.loop vY) (O3 a0 av bW s0)=En (O4 a0 av bW d):=zc (jn9 a0 av bW) h
def Hj (a0:Int)(av:ak)(bW:List UInt8):Option Int:=
 qa (bu (Hk a0 av bW) 0) fun d13=>match d13 with
  | .inl d15=>
   En d15
  | .inr d16=>
   En (-1)
theorem j0w {a0 av bW r}(h:Hj a0 av bW=En r):qc pr (X pr) 118 [Iv a0,.fn (.func 119) [] [.ai (aR av),.ai (.str bW)]]=En (Iv r,I):=by
 unfold Hj at h
 refine zh lh ?_
 repeat' first|(replace h:=qb h;obtain⟨d,g,h⟩:=h;with_reducible first|(replace g:=jqg a0 av bW g;rcases d with d|d<;>dsimp only[O3,O4,zf]at g h)|skip)|(replace h:=qd h;rcases h with⟨g,h⟩|⟨g,h⟩)
 all_goals (cases h<;>(simp only[go_sem,seval,lh, *];exact⟨_,rfl⟩))
def f64 (a0:ak)(a1:List UInt8):Option Int:=
 qa (Hj ((a0.au.getD []).length:Int) a0 a1) fun v1=>
 En v1
theorem E2 {a0 a1 r}(h:f64 a0 a1=En r):qc pr (X pr) 64 [aR a0,.str a1]=En (Iv r,I):=by
 unfold f64 at h
 refine zh JF ?_
 repeat' first|(replace h:=qb h;obtain⟨d,g,h⟩:=h;with_reducible first|replace g:=j0w g|skip)|(replace h:=qd h;rcases h with⟨g,h⟩|⟨g,h⟩)
 all_goals (cases h<;>(simp only[go_sem,seval,JF, *];exact⟨_,rfl⟩))
def f206 (a0:Int)(a1:ak)(a2:List UInt8):Option Bool:=
 qa (qr (a1.ae.getD []) a0) fun v1=>
 En (decide (v1.name=a2))
theorem zh2 (hp:qi){a0 a1 a2 r}(h:f206 a0 a1 a2=En r):qo pr (X pr) 206 [Iv a0,.ai (aR a1),.ai (.str a2)] hp=En (.bool r,I,hp):=by
 unfold f206 at h
 obtain⟨v1,h2,h⟩:=qb h
 have hr:decide (v1.name=a2)=r:=En.inj h
 subst hr
 rw[ql (show pr.bO 206=En tO from rfl) (by simp)]
 simp only[go_sem,seval,tO,zj h2]<;>rfl
def Hm (a0:Int)(av:ak)(bW:List UInt8)(s0:Int):Option (Int⊕(Int⊕Int)):=
 cond (decide (s0<a0))
  (qa (f206 s0 av bW) fun v10=>
  cond v10
   (En (.inr (.inl s0)))
   (En (.inl (qe .i64 (s0+1)))))
  (En (.inr (.inr s0)))
def O5 (a0:Int)(av:ak)(bW:List UInt8)(s0:Int):aY:=⟨[(1,.fn (.func 206) [] [.ai (aR av),.ai (.str bW)],I),(5,Iv (-1),I),(7,Iv a0,I),(8,Iv s0,I)],[]⟩
def O6 (a0:Int)(av:ak)(bW:List UInt8):Int⊕Int→jf×aY
 | .inl d=>(.exit 0,⟨[(5,Iv d,I)],[]⟩)
 | .inr d=>(.exit 0,⟨[(1,.fn (.func 206) [] [.ai (aR av),.ai (.str bW)],I),(5,Iv (-1),I),(7,Iv a0,I),(8,Iv d,I),(9,.bool I,I)],[]⟩)
theorem jpo (a0:Int)(av:ak)(bW:List UInt8)(s0:Int)(r)(h:Hm a0 av bW s0=En r):jw pr vY (O5 a0 av bW) (O6 a0 av bW) s0 r:=by
 unfold Hm at h
 repeat' first|(replace h:=qb h;obtain⟨d,g,h⟩:=h;with_reducible first|replace g:=zh2 [] g|skip)|(replace h:=qd h;rcases h with⟨g,h⟩|⟨g,h⟩)
 all_goals (cases h<;>((first|refine qw ?_|refine jm ?_);simp only[go_sem,seval,vY,O5,O6, *]<;>rfl))
theorem jno (a0:Int)(av:ak)(bW:List UInt8){s0 d}(h:bu (Hm a0 av bW) s0=En d):X pr (.loop vY) (O5 a0 av bW s0)=En (O6 a0 av bW d):=zc (jpo a0 av bW) h
def Hl (a0:Int)(av:ak)(bW:List UInt8):Option Int:=
 qa (bu (Hm a0 av bW) 0) fun d13=>match d13 with
  | .inl d15=>
   En d15
  | .inr d16=>
   En (-1)
theorem j2p {a0 av bW r}(h:Hl a0 av bW=En r):qc pr (X pr) 118 [Iv a0,.fn (.func 206) [] [.ai (aR av),.ai (.str bW)]]=En (Iv r,I):=by
 unfold Hl at h
 refine zh lh ?_
 repeat' first|(replace h:=qb h;obtain⟨d,g,h⟩:=h;with_reducible first|(replace g:=jno a0 av bW g;rcases d with d|d<;>dsimp only[O5,O6,zf]at g h)|skip)|(replace h:=qd h;rcases h with⟨g,h⟩|⟨g,h⟩)
 all_goals (cases h<;>(simp only[go_sem,seval,lh, *];exact⟨_,rfl⟩))
def oj (a0:ak)(a1:List UInt8):Option Int:=
 qa (Hl ((a0.ae.getD []).length:Int) a0 a1) fun v1=>
 En v1
theorem vT {a0 a1 r}(h:oj a0 a1=En r):qc pr (X pr) 161 [aR a0,.str a1]=En (Iv r,I):=by
 unfold oj at h
 refine zh tP ?_
 repeat' first|(replace h:=qb h;obtain⟨d,g,h⟩:=h;with_reducible first|replace g:=j2p g|skip)|(replace h:=qd h;rcases h with⟨g,h⟩|⟨g,h⟩)
 all_goals (cases h<;>(simp only[go_sem,seval,tP, *];exact⟨_,rfl⟩))
def LR (a0:Int)(a1:ak)(a2:List UInt8):Option Bool:=
 qa (qr (a1.units.getD []) a0) fun v1=>
 En (decide (v1.name=a2))
theorem zdw (hp:qi){a0 a1 a2 r}(h:LR a0 a1 a2=En r):qo pr (X pr) 124 [Iv a0,.ai (aR a1),.ai (.str a2)] hp=En (.bool r,I,hp):=by
 unfold LR at h
 obtain⟨v1,h2,h⟩:=qb h
 have hr:decide (v1.name=a2)=r:=En.inj h
 subst hr
 rw[ql (show pr.bO 124=En tQ from rfl) (by simp)]
 simp only[go_sem,seval,tQ,zj h2]<;>rfl
def Ho (a0:Int)(av:ak)(bW:List UInt8)(s0:Int):Option (Int⊕(Int⊕Int)):=
 cond (decide (s0<a0))
  (qa (LR s0 av bW) fun v10=>
  cond v10
   (En (.inr (.inl s0)))
   (En (.inl (qe .i64 (s0+1)))))
  (En (.inr (.inr s0)))
def O7 (a0:Int)(av:ak)(bW:List UInt8)(s0:Int):aY:=⟨[(1,.fn (.func 124) [] [.ai (aR av),.ai (.str bW)],I),(5,Iv (-1),I),(7,Iv a0,I),(8,Iv s0,I)],[]⟩
def O8 (a0:Int)(av:ak)(bW:List UInt8):Int⊕Int→jf×aY
 | .inl d=>(.exit 0,⟨[(5,Iv d,I)],[]⟩)
 | .inr d=>(.exit 0,⟨[(1,.fn (.func 124) [] [.ai (aR av),.ai (.str bW)],I),(5,Iv (-1),I),(7,Iv a0,I),(8,Iv d,I),(9,.bool I,I)],[]⟩)
theorem jqc (a0:Int)(av:ak)(bW:List UInt8)(s0:Int)(r)(h:Ho a0 av bW s0=En r):jw pr vY (O7 a0 av bW) (O8 a0 av bW) s0 r:=by
 unfold Ho at h
 repeat' first|(replace h:=qb h;obtain⟨d,g,h⟩:=h;with_reducible first|replace g:=zdw [] g|skip)|(replace h:=qd h;rcases h with⟨g,h⟩|⟨g,h⟩)
 all_goals (cases h<;>((first|refine qw ?_|refine jm ?_);simp only[go_sem,seval,vY,O7,O8, *]<;>rfl))
theorem jqd (a0:Int)(av:ak)(bW:List UInt8){s0 d}(h:bu (Ho a0 av bW) s0=En d):X pr (.loop vY) (O7 a0 av bW s0)=En (O8 a0 av bW d):=zc (jqc a0 av bW) h
def Hn (a0:Int)(av:ak)(bW:List UInt8):Option Int:=
 qa (bu (Ho a0 av bW) 0) fun d13=>match d13 with
  | .inl d15=>
   En d15
  | .inr d16=>
   En (-1)
theorem j3l {a0 av bW r}(h:Hn a0 av bW=En r):qc pr (X pr) 118 [Iv a0,.fn (.func 124) [] [.ai (aR av),.ai (.str bW)]]=En (Iv r,I):=by
 unfold Hn at h
 refine zh lh ?_
 repeat' first|(replace h:=qb h;obtain⟨d,g,h⟩:=h;with_reducible first|(replace g:=jqd a0 av bW g;rcases d with d|d<;>dsimp only[O7,O8,zf]at g h)|skip)|(replace h:=qd h;rcases h with⟨g,h⟩|⟨g,h⟩)
 all_goals (cases h<;>(simp only[go_sem,seval,lh, *];exact⟨_,rfl⟩))
def f76 (a0:ak)(a1:List UInt8):Option Int:=
 qa (Hn ((a0.units.getD []).length:Int) a0 a1) fun v1=>
 En v1
theorem zY {a0 a1 r}(h:f76 a0 a1=En r):qc pr (X pr) 76 [aR a0,.str a1]=En (Iv r,I):=by
 unfold f76 at h
 refine zh JG ?_
 repeat' first|(replace h:=qb h;obtain⟨d,g,h⟩:=h;with_reducible first|replace g:=j3l g|skip)|(replace h:=qd h;rcases h with⟨g,h⟩|⟨g,h⟩)
 all_goals (cases h<;>(simp only[go_sem,seval,JG, *];exact⟨_,rfl⟩))
def Er (a0:ak)(a1:Int)(a2:List UInt8):Option Bool:=
 cond (decide (a1=108))
  (qa (f64 a0 a2) fun v2=>
  En (decide (0≤v2)))
  (cond (decide (a1=112))
   (qa (oj a0 a2) fun v5=>
   En (decide (0≤v5)))
   (cond (decide (a1=117))
    (qa (f76 a0 a2) fun v8=>
    En (decide (0≤v8)))
    (En Ga)))
theorem jwp {a0 a1 a2 r}(h:Er a0 a1 a2=En r):qc pr (X pr) 167 [aR a0,.int .i32 a1,.str a2]=En (.bool r,I):=by
 unfold Er at h
 refine zh tR ?_
 repeat' first|(replace h:=qb h;obtain⟨d,g,h⟩:=h;with_reducible first|replace g:=E2 g|replace g:=vT g|replace g:=zY g|skip)|(replace h:=qd h;rcases h with⟨g,h⟩|⟨g,h⟩)
 all_goals (cases h<;>(simp only[go_sem,seval,tR, *];exact⟨_,rfl⟩))
def Ea (a0:aC):Option Int:=
 En ((a0.aH.getD []).length:Int)
theorem jrf {a0 r}(h:Ea a0=En r):qc pr (X pr) 162 [aP a0]=En (Iv r,I):=by
 unfold Ea at h
 have hr:((a0.aH.getD []).length:Int)=r:=En.inj h
 subst hr
 have this:∃hh,qo pr (X pr) 162 [aP a0] []=En (Lv a0.aH,I,hh):=by
  rw[ql (show pr.bO 162=En tS from rfl) (by simp)]
  simp only[go_sem,seval,tS]
  exact⟨_,rfl⟩
 obtain⟨hh,this⟩:=this
 exact zo rfl this (by first|rfl|simp only[go_sem,seval]) (by first|rfl|simp only[go_sem,seval])
def D8 (a0:ak)(a1:bg):Option Int:=
 qa (oj a0 a1.product) fun v1=>
 qa (qr (a0.ae.getD []) v1) fun v3=>
 qa (Ea v3) fun v5=>
 En v5
theorem jrg {a0 a1 r}(h:D8 a0 a1=En r):qc pr (X pr) 132 [aR a0,aU a1]=En (Iv r,I):=by
 unfold D8 at h
 refine zh tT ?_
 repeat' first|(replace h:=qb h;obtain⟨d,g,h⟩:=h;with_reducible first|replace g:=vT g|replace g:=jrf g|skip)|(replace h:=qd h;rcases h with⟨g,h⟩|⟨g,h⟩)
 all_goals (cases h<;>(simp only[go_sem,seval,tT,jg, *];exact⟨_,rfl⟩))
def pQ (a0:ak)(a1:bg):Option bf:=
 qa (oj a0 a1.product) fun v1=>
 qa (qr (a0.ae.getD []) v1) fun v3=>
 qa (qr (v3.aH.getD []) (qe .i64 (a1.version-1))) fun v5=>
 En v5
theorem Nx {a0 a1 r}(h:pQ a0 a1=En r):qc pr (X pr) 126 [aR a0,aU a1]=En (aD r,I):=by
 unfold pQ at h
 refine zh tU ?_
 repeat' first|(replace h:=qb h;obtain⟨d,g,h⟩:=h;with_reducible first|replace g:=vT g|skip)|(replace h:=qd h;rcases h with⟨g,h⟩|⟨g,h⟩)
 all_goals (cases h<;>(simp only[go_sem,seval,tU,jg, *];exact⟨_,rfl⟩))
def Bj (a0:bg)(a1:jc)(s0:Int×(List UInt8)×Int×Int):Option ((Int×(List UInt8)×Int×Int)⊕((Int×(List UInt8)×Int×Int))):=
 cond (decide (s0.1<((a0.results.getD []).length:Int)))
  (qa (qr (a0.results.getD []) s0.1) fun v12=>
  cond (decide (v12.k=a1.k))
   (cond (decide (v12.a=a0.version))
    (En (.inl (qe .i64 (s0.1+1),v12.k,v12.a,v12.b)))
    (En (.inl (qe .i64 (s0.1+1),s0.2.1,s0.2.2.1,s0.2.2.2))))
   (En (.inl (qe .i64 (s0.1+1),s0.2.1,s0.2.2.1,s0.2.2.2))))
  (En (.inr (s0.1,s0.2.1,s0.2.2.1,s0.2.2.2)))
def O9 (a0:bg)(a1:jc)(s0:Int×(List UInt8)×Int×Int):aY:=⟨[(2,.ai (aU a0),I),(3,.ai (aT a1),I),(5,.ptr 0 0,I),(10,sl 3 jb a0.results,I),(11,Lv a0.results,I),(12,Iv s0.1,I)],[.cells [(.str s0.2.1,I),(Iv s0.2.2.1,I),(Iv s0.2.2.2,I)]]⟩
def Pa (a0:bg)(a1:jc)(d:(Int×(List UInt8)×Int×Int)):jf×aY:=(.exit 0,⟨[(2,.ai (aU a0),I),(3,.ai (aT a1),I),(5,.ptr 0 0,I),(10,sl 3 jb a0.results,I),(11,Lv a0.results,I),(12,Iv d.1,I),(13,.bool I,I)],[.cells [(.str d.2.1,I),(Iv d.2.2.1,I),(Iv d.2.2.2,I)]]⟩)
theorem juu (a0:bg)(a1:jc)(s0:Int×(List UInt8)×Int×Int)(r)(h:Bj a0 a1 s0=En r):jw pr Pb (O9 a0 a1) (Pa a0 a1) s0 r:=by
 unfold Bj at h
 repeat' first|(replace h:=qb h;obtain⟨d,g,h⟩:=h)|(replace h:=qd h;rcases h with⟨g,h⟩|⟨g,h⟩)
 all_goals (cases h<;>((first|refine qw ?_|refine jm ?_);simp only[go_sem,seval,Pb,O9,jg,Pa, *]<;>rfl))
theorem jsc (a0:bg)(a1:jc){s0 d}(h:bu (Bj a0 a1) s0=En d):X pr (.loop Pb) (O9 a0 a1 s0)=En (Pa a0 a1 d):=zc (juu a0 a1) h
def Hr (a0:bg)(a1:jc):Option Bool:=
 qa (bu (Bj a0 a1) (0,[],(-1),0)) fun d16=>
 cond (decide (d16.2.1=[])&&decide (d16.2.2.1=(-1))&&decide (d16.2.2.2=0))
  (En I)
  (cond (decide (a1.a≤d16.2.2.2))
   (En (decide (d16.2.2.2≤a1.b)))
   (En I))
theorem zco {a0 a1 r}(h:Hr a0 a1=En r):qc pr (X pr) 128 [aU a0,aT a1]=En (.bool r,I):=by
 unfold Hr at h
 refine zh tV ?_
 repeat' first|(replace h:=qb h;obtain⟨d,g,h⟩:=h;with_reducible first|(replace g:=jsc a0 a1 g;dsimp only[O9,Pa,zf]at g h)|skip)|(replace h:=qd h;rcases h with⟨g,h⟩|⟨g,h⟩)
 all_goals (cases h<;>(simp only[go_sem,seval,tV, *];exact⟨_,rfl⟩))
def Hu (a0:jc)(a1:bg):Option Bool:=
 qa (Hr a1 a0) fun v1=>
 En (!v1)
theorem zit (hp:qi){a0 a1 r}(h:Hu a0 a1=En r):qo pr (X pr) 127 [aT a0,.ai (aU a1)] hp=En (.bool r,I,hp):=by
 unfold Hu at h
 obtain⟨v1,h2,h⟩:=qb h
 have sQ:qc pr (X pr) 128 [aU a1,aT a0]=En (.bool v1,I):=zco h2
 have hr:(!v1)=r:=En.inj h
 subst hr
 rw[ql (show pr.bO 127=En tW from rfl) (by simp)]
 simp only[go_sem,seval,tW,sQ]<;>rfl
def Ht (a0:Option (List jc))(av:bg)(s0:(Option (List jc))×Int×Bool):Option (((Option (List jc))×Int×Bool)⊕(((Option (List jc))×Bool×Int))):=
 cond (decide (s0.2.1<((a0.getD []).length:Int)))
  (qa (qr (a0.getD []) s0.2.1) fun v20=>
  qa (Hu v20 av) fun v22=>
  cond v22
   (cond s0.2.2
    (qa (bB s0.1 [v20]) fun v26=>
    En (.inl (v26,qe .i64 (s0.2.1+1),Ga)))
    (cond s0.1.isNone
     (qa (bB s0.1 [v20]) fun ic=>
     En (.inl (ic,qe .i64 (s0.2.1+1),Ga)))
     (Gb)))
   (En (.inl (s0.1,qe .i64 (s0.2.1+1),s0.2.2))))
  (En (.inr (s0.1,s0.2.2,s0.2.1)))
def Pc (a0:Option (List jc))(av:bg)(s0:(Option (List jc))×Int×Bool):aY:=⟨[(1,.fn (.func 127) [] [.ai (aU av)],I),(5,sl 3 jb s0.1,s0.2.2),(8,sl 3 jb a0,I),(9,Lv a0,I),(10,Iv s0.2.1,I)],[]⟩
def Pd (a0:Option (List jc))(av:bg)(d:((Option (List jc))×Bool×Int)):jf×aY:=(.exit 0,⟨[(1,.fn (.func 127) [] [.ai (aU av)],I),(5,sl 3 jb d.1,d.2.1),(8,sl 3 jb a0,I),(9,Lv a0,I),(10,Iv d.2.2,I),(11,.bool I,I)],[]⟩)
theorem jq8 (a0:Option (List jc))(av:bg)(s0:(Option (List jc))×Int×Bool)(r)(h:Ht a0 av s0=En r):jw pr Pe (Pc a0 av) (Pd a0 av) s0 r:=by
 unfold Ht at h
 repeat' first|(replace h:=qb h;obtain⟨d,g,h⟩:=h;with_reducible first|replace g:=zit [] g|replace g:=yS g|skip)|(replace h:=qd h;rcases h with⟨g,h⟩|⟨g,h⟩)
 all_goals (cases h<;>((first|refine qw ?_|refine jm ?_);simp only[go_sem,seval,Pe,Pc,jg,Pd, *]<;>rfl))
theorem jvg (a0:Option (List jc))(av:bg){s0 d}(h:bu (Ht a0 av) s0=En d):X pr (.loop Pe) (Pc a0 av s0)=En (Pd a0 av d):=zc (jq8 a0 av) h
def Hs (a0:Option (List jc))(av:bg):Option ((Option (List jc))×Bool):=
 qa (bu (Ht a0 av) (Gb,0,I)) fun d31=>
 En (d31.1,d31.2.1)
theorem zig {a0 av r}(h:Hs a0 av=En r):qc pr (X pr) 125 [sl 3 jb a0,.fn (.func 127) [] [.ai (aU av)]]=En (sl 3 jb r.1,r.2):=by
 unfold Hs at h
 refine kg tX ?_
 repeat' first|(replace h:=qb h;obtain⟨d,g,h⟩:=h;with_reducible first|(replace g:=jvg a0 av g;dsimp only[Pc,Pd,zf]at g h)|skip)|(replace h:=qd h;rcases h with⟨g,h⟩|⟨g,h⟩)
 all_goals (cases h<;>(simp only[go_sem,seval,tX, *];exact⟨_,rfl⟩))
def LV (a0:jc):Option (List UInt8):=
 En a0.k
theorem zfb (hp:qi){a0 r}(h:LV a0=En r):qo pr (X pr) 130 [aT a0] hp=En (.str r,I,hp):=by
 unfold LV at h
 have hr:a0.k=r:=En.inj h
 subst hr
 rw[ql (show pr.bO 130=En tY from rfl) (by simp)]
 simp only[go_sem,seval,tY]<;>rfl
def Hv (a0:Option (List jc))(s0:(Option (List (List UInt8)))×Int×Bool):Option (((Option (List (List UInt8)))×Int×Bool)⊕(((Option (List (List UInt8)))×Bool×Int))):=
 cond (decide (s0.2.1<((a0.getD []).length:Int)))
  (qa (qr (a0.getD []) s0.2.1) fun gV=>
  qa (LV gV) fun v20=>
  cond s0.2.2
   (qa (bB s0.1 [v20]) fun v23=>
   En (.inl (v23,qe .i64 (s0.2.1+1),Ga)))
   (cond s0.1.isNone
    (qa (bB s0.1 [v20]) fun v26=>
    En (.inl (v26,qe .i64 (s0.2.1+1),Ga)))
    (Gb)))
  (En (.inr (s0.1,s0.2.2,s0.2.1)))
def Pg (a0:Option (List jc))(s0:(Option (List (List UInt8)))×Int×Bool):aY:=⟨[(1,.fn (.func 130) [] [],I),(5,sl 1 yl s0.1,s0.2.2),(8,sl 3 jb a0,I),(9,Lv a0,I),(10,Iv s0.2.1,I)],[]⟩
def Ph (a0:Option (List jc))(d:((Option (List (List UInt8)))×Bool×Int)):jf×aY:=(.exit 0,⟨[(1,.fn (.func 130) [] [],I),(5,sl 1 yl d.1,d.2.1),(8,sl 3 jb a0,I),(9,Lv a0,I),(10,Iv d.2.2,I),(11,.bool I,I)],[]⟩)
theorem jtd (a0:Option (List jc))(s0:(Option (List (List UInt8)))×Int×Bool)(r)(h:Hv a0 s0=En r):jw pr Pj (Pg a0) (Ph a0) s0 r:=by
 unfold Hv at h
 repeat' first|(replace h:=qb h;obtain⟨d,g,h⟩:=h;with_reducible first|replace g:=zfb [] g|replace g:=q8f g|skip)|(replace h:=qd h;rcases h with⟨g,h⟩|⟨g,h⟩)
 all_goals (cases h<;>((first|refine qw ?_|refine jm ?_);simp only[go_sem,seval,Pj,Pg,jg,Ph, *]<;>rfl))
theorem jrv (a0:Option (List jc)){s0 d}(h:bu (Hv a0) s0=En d):X pr (.loop Pj) (Pg a0 s0)=En (Ph a0 d):=zc (jtd a0) h
def f129 (a0:Option (List jc)):Option ((Option (List (List UInt8)))×Bool):=
 qa (bu (Hv a0) (Gb,0,I)) fun d28=>
 En (d28.1,d28.2.1)
theorem zdh {a0 r}(h:f129 a0=En r):qc pr (X pr) 129 [sl 3 jb a0,.fn (.func 130) [] []]=En (sl 1 yl r.1,r.2):=by
 unfold f129 at h
 refine kg tZ ?_
 repeat' first|(replace h:=qb h;obtain⟨d,g,h⟩:=h;with_reducible first|(replace g:=jrv a0 g;dsimp only[Pg,Ph,zf]at g h)|skip)|(replace h:=qd h;rcases h with⟨g,h⟩|⟨g,h⟩)
 all_goals (cases h<;>(simp only[go_sem,seval,tZ, *];exact⟨_,rfl⟩))
def f78 (a0:ak)(a1:bg):Option ((Option (List (List UInt8)))×Bool):=
 qa (pQ a0 a1) fun v1=>
 qa (Hs v1.aA a1) fun v3=>
 qa (f129 v3.1) fun v5=>
 En (v5.1,v5.2)
theorem W78 {a0 a1 r}(h:f78 a0 a1=En r):qc pr (X pr) 78 [aR a0,aU a1]=En (sl 1 yl r.1,r.2):=by
 unfold f78 at h
 refine kg JH ?_
 repeat' first|(replace h:=qb h;obtain⟨d,g,h⟩:=h;with_reducible first|replace g:=Nx g|replace g:=zig g|replace g:=zdh g|skip)|(replace h:=qd h;rcases h with⟨g,h⟩|⟨g,h⟩)
 all_goals (cases h<;>(simp only[go_sem,seval,JH, *];exact⟨_,rfl⟩))
end Go.Z
namespace Go.Z
open Go Go.Abs Go.W
def f268 (a0:Option (List je)):Option ((Option (List je))×Bool):=
 cond a0.isNone
  (En (Gb,I))
  (qa (bB (En []) (a0.getD [])) fun v2=>
  En (v2,Ga))
theorem zj3 {a0 r}(h:f268 a0=En r):qc pr (X pr) 268 [sl 5 jd a0]=En (sl 5 jd r.1,r.2):=by
 unfold f268 at h
 refine kg ua ?_
 repeat' first|(replace h:=qb h;obtain⟨d,g,h⟩:=h)|(replace h:=qd h;rcases h with⟨g,h⟩|⟨g,h⟩)
 all_goals (cases h<;>(simp only[go_sem,seval,ua,kw, *];exact⟨_,rfl⟩))
def Yr (a0:Option (List aC)):Option ((Option (List aC))×Bool):=
 cond a0.isNone
  (En (Gb,I))
  (qa (bB (En []) (a0.getD [])) fun v2=>
  En (v2,Ga))
theorem zc2 {a0 r}(h:Yr a0=En r):qc pr (X pr) 269 [sl 4 qu a0]=En (sl 4 qu r.1,r.2):=by
 unfold Yr at h
 refine kg ub ?_
 repeat' first|(replace h:=qb h;obtain⟨d,g,h⟩:=h)|(replace h:=qd h;rcases h with⟨g,h⟩|⟨g,h⟩)
 all_goals (cases h<;>(simp only[go_sem,seval,ub,kw, *];exact⟨_,rfl⟩))
def Ys (a0:Option (List bg)):Option ((Option (List bg))×Bool):=
 cond a0.isNone
  (En (Gb,I))
  (qa (bB (En []) (a0.getD [])) fun v2=>
  En (v2,Ga))
theorem zgw {a0 r}(h:Ys a0=En r):qc pr (X pr) 281 [sl 8 bD a0]=En (sl 8 bD r.1,r.2):=by
 unfold Ys at h
 refine kg uc ?_
 repeat' first|(replace h:=qb h;obtain⟨d,g,h⟩:=h)|(replace h:=qd h;rcases h with⟨g,h⟩|⟨g,h⟩)
 all_goals (cases h<;>(simp only[go_sem,seval,uc,kw, *];exact⟨_,rfl⟩))
def Yt (a0:Option (List bf)):Option ((Option (List bf))×Bool):=
 cond a0.isNone
  (En (Gb,I))
  (qa (bB (En []) (a0.getD [])) fun v2=>
  En (v2,Ga))
theorem zfi {a0 r}(h:Yt a0=En r):qc pr (X pr) 278 [sl 2 yf a0]=En (sl 2 yf r.1,r.2):=by
 unfold Yt at h
 refine kg ud ?_
 repeat' first|(replace h:=qb h;obtain⟨d,g,h⟩:=h)|(replace h:=qd h;rcases h with⟨g,h⟩|⟨g,h⟩)
 all_goals (cases h<;>(simp only[go_sem,seval,ud,kw, *];exact⟨_,rfl⟩))
def H4 (a0:Option (List bn)):Option ((Option (List bn))×Bool):=
 cond a0.isNone
  (En (Gb,I))
  (qa (bB (En []) (a0.getD [])) fun v2=>
  En (v2,Ga))
theorem ju2 {a0 r}(h:H4 a0=En r):qc pr (X pr) 279 [sl 2 bp a0]=En (sl 2 bp r.1,r.2):=by
 unfold H4 at h
 refine kg uf ?_
 repeat' first|(replace h:=qb h;obtain⟨d,g,h⟩:=h)|(replace h:=qd h;rcases h with⟨g,h⟩|⟨g,h⟩)
 all_goals (cases h<;>(simp only[go_sem,seval,uf,kw, *];exact⟨_,rfl⟩))
def H5 (a0:Option (List jc)):Option ((Option (List jc))×Bool):=
 cond a0.isNone
  (En (Gb,I))
  (qa (bB (En []) (a0.getD [])) fun v2=>
  En (v2,Ga))
theorem jw7 {a0 r}(h:H5 a0=En r):qc pr (X pr) 280 [sl 3 jb a0]=En (sl 3 jb r.1,r.2):=by
 unfold H5 at h
 refine kg ug ?_
 repeat' first|(replace h:=qb h;obtain⟨d,g,h⟩:=h)|(replace h:=qd h;rcases h with⟨g,h⟩|⟨g,h⟩)
 all_goals (cases h<;>(simp only[go_sem,seval,ug,kw, *];exact⟨_,rfl⟩))
def f285 (a0:Option (List jc)):Option ((Option (List jc))×Bool):=
 cond a0.isNone
  (En (Gb,I))
  (qa (bB (En []) (a0.getD [])) fun v2=>
  En (v2,Ga))
theorem zbq {a0 r}(h:f285 a0=En r):qc pr (X pr) 285 [sl 3 jb a0]=En (sl 3 jb r.1,r.2):=by
 unfold f285 at h
 refine kg uh ?_
 repeat' first|(replace h:=qb h;obtain⟨d,g,h⟩:=h)|(replace h:=qd h;rcases h with⟨g,h⟩|⟨g,h⟩)
 all_goals (cases h<;>(simp only[go_sem,seval,uh,kw, *];exact⟨_,rfl⟩))
def Yu (a0:Option (List bn)):Option ((Option (List bn))×Bool):=
 cond a0.isNone
  (En (Gb,I))
  (qa (bB (En []) (a0.getD [])) fun v2=>
  En (v2,Ga))
theorem zi6 {a0 r}(h:Yu a0=En r):qc pr (X pr) 300 [sl 2 bp a0]=En (sl 2 bp r.1,r.2):=by
 unfold Yu at h
 refine kg ui ?_
 repeat' first|(replace h:=qb h;obtain⟨d,g,h⟩:=h)|(replace h:=qd h;rcases h with⟨g,h⟩|⟨g,h⟩)
 all_goals (cases h<;>(simp only[go_sem,seval,ui,kw, *];exact⟨_,rfl⟩))
def LY (a0:Option (List je))(a1:je):Option (Option (List je)):=
 qa (f268 a0) fun v1=>
 cond v1.2
  (qa (bB v1.1 [a1]) fun v4=>
  En v4)
  (cond v1.1.isNone
   (qa (bB v1.1 [a1]) fun v7=>
   En v7)
   (Gb))
theorem zed {a0 a1 r}(h:LY a0 a1=En r):qc pr (X pr) 209 [sl 5 jd a0,aL a1]=En (sl 5 jd r,Ga):=by
 unfold LY at h
 refine kg uj ?_
 repeat' first|(replace h:=qb h;obtain⟨d,g,h⟩:=h;with_reducible first|replace g:=zj3 g|replace g:=LJ g|skip)|(replace h:=qd h;rcases h with⟨g,h⟩|⟨g,h⟩)
 all_goals (cases h<;>(simp only[go_sem,seval,uj, *];exact⟨_,rfl⟩))
def LZ (a0:Option (List aC))(a1:aC):Option (Option (List aC)):=
 qa (Yr a0) fun v1=>
 cond v1.2
  (qa (bB v1.1 [a1]) fun v4=>
  En v4)
  (cond v1.1.isNone
   (qa (bB v1.1 [a1]) fun v7=>
   En v7)
   (Gb))
theorem zb5 {a0 a1 r}(h:LZ a0 a1=En r):qc pr (X pr) 210 [sl 4 qu a0,aP a1]=En (sl 4 qu r,Ga):=by
 unfold LZ at h
 refine kg uk ?_
 repeat' first|(replace h:=qb h;obtain⟨d,g,h⟩:=h;with_reducible first|replace g:=zc2 g|replace g:=Tt g|skip)|(replace h:=qd h;rcases h with⟨g,h⟩|⟨g,h⟩)
 all_goals (cases h<;>(simp only[go_sem,seval,uk, *];exact⟨_,rfl⟩))
def f225 (a0:Option (List bg))(a1:bg):Option (Option (List bg)):=
 qa (Ys a0) fun v1=>
 cond v1.2
  (qa (bB v1.1 [a1]) fun v4=>
  En v4)
  (cond v1.1.isNone
   (qa (bB v1.1 [a1]) fun v7=>
   En v7)
   (Gb))
theorem ziu {a0 a1 r}(h:f225 a0 a1=En r):qc pr (X pr) 225 [sl 8 bD a0,aU a1]=En (sl 8 bD r,Ga):=by
 unfold f225 at h
 refine kg ul ?_
 repeat' first|(replace h:=qb h;obtain⟨d,g,h⟩:=h;with_reducible first|replace g:=zgw g|replace g:=Tv g|skip)|(replace h:=qd h;rcases h with⟨g,h⟩|⟨g,h⟩)
 all_goals (cases h<;>(simp only[go_sem,seval,ul, *];exact⟨_,rfl⟩))
def L0 (a0:Option (List bf))(a1:bf):Option (Option (List bf)):=
 qa (Yt a0) fun v1=>
 cond v1.2
  (qa (bB v1.1 [a1]) fun v4=>
  En v4)
  (cond v1.1.isNone
   (qa (bB v1.1 [a1]) fun v7=>
   En v7)
   (Gb))
theorem zei {a0 a1 r}(h:L0 a0 a1=En r):qc pr (X pr) 223 [sl 2 yf a0,aD a1]=En (sl 2 yf r,Ga):=by
 unfold L0 at h
 refine kg um ?_
 repeat' first|(replace h:=qb h;obtain⟨d,g,h⟩:=h;with_reducible first|replace g:=zfi g|replace g:=Ts g|skip)|(replace h:=qd h;rcases h with⟨g,h⟩|⟨g,h⟩)
 all_goals (cases h<;>(simp only[go_sem,seval,um, *];exact⟨_,rfl⟩))
def L2 (a0:Option (List bn))(a1:bn):Option (Option (List bn)):=
 qa (H4 a0) fun v1=>
 cond v1.2
  (qa (bB v1.1 [a1]) fun v4=>
  En v4)
  (cond v1.1.isNone
   (qa (bB v1.1 [a1]) fun v7=>
   En v7)
   (Gb))
theorem zb7 {a0 a1 r}(h:L2 a0 a1=En r):qc pr (X pr) 273 [sl 2 bp a0,aN a1]=En (sl 2 bp r,Ga):=by
 unfold L2 at h
 refine kg uo ?_
 repeat' first|(replace h:=qb h;obtain⟨d,g,h⟩:=h;with_reducible first|replace g:=ju2 g|replace g:=wJ g|skip)|(replace h:=qd h;rcases h with⟨g,h⟩|⟨g,h⟩)
 all_goals (cases h<;>(simp only[go_sem,seval,uo, *];exact⟨_,rfl⟩))
def f277 (a0:Option (List jc))(a1:jc):Option (Option (List jc)):=
 qa (H5 a0) fun v1=>
 cond v1.2
  (qa (bB v1.1 [a1]) fun v4=>
  En v4)
  (cond v1.1.isNone
   (qa (bB v1.1 [a1]) fun v7=>
   En v7)
   (Gb))
theorem zem {a0 a1 r}(h:f277 a0 a1=En r):qc pr (X pr) 277 [sl 3 jb a0,aT a1]=En (sl 3 jb r,Ga):=by
 unfold f277 at h
 refine kg uq ?_
 repeat' first|(replace h:=qb h;obtain⟨d,g,h⟩:=h;with_reducible first|replace g:=jw7 g|replace g:=yS g|skip)|(replace h:=qd h;rcases h with⟨g,h⟩|⟨g,h⟩)
 all_goals (cases h<;>(simp only[go_sem,seval,uq, *];exact⟨_,rfl⟩))
def f284 (a0:Option (List bn))(a1:bn):Option (Option (List bn)):=
 qa (Yu a0) fun v1=>
 cond v1.2
  (qa (bB v1.1 [a1]) fun v4=>
  En v4)
  (cond v1.1.isNone
   (qa (bB v1.1 [a1]) fun v7=>
   En v7)
   (Gb))
theorem zju {a0 a1 r}(h:f284 a0 a1=En r):qc pr (X pr) 284 [sl 2 bp a0,aN a1]=En (sl 2 bp r,Ga):=by
 unfold f284 at h
 refine kg ur ?_
 repeat' first|(replace h:=qb h;obtain⟨d,g,h⟩:=h;with_reducible first|replace g:=zi6 g|replace g:=wJ g|skip)|(replace h:=qd h;rcases h with⟨g,h⟩|⟨g,h⟩)
 all_goals (cases h<;>(simp only[go_sem,seval,ur, *];exact⟨_,rfl⟩))
def L3 (a0:Option (List jc))(a1:jc):Option (Option (List jc)):=
 qa (f285 a0) fun v1=>
 cond v1.2
  (qa (bB v1.1 [a1]) fun v4=>
  En v4)
  (cond v1.1.isNone
   (qa (bB v1.1 [a1]) fun v7=>
   En v7)
   (Gb))
theorem zdx {a0 a1 r}(h:L3 a0 a1=En r):qc pr (X pr) 236 [sl 3 jb a0,aT a1]=En (sl 3 jb r,Ga):=by
 unfold L3 at h
 refine kg uv ?_
 repeat' first|(replace h:=qb h;obtain⟨d,g,h⟩:=h;with_reducible first|replace g:=zbq g|replace g:=yS g|skip)|(replace h:=qd h;rcases h with⟨g,h⟩|⟨g,h⟩)
 all_goals (cases h<;>(simp only[go_sem,seval,uv, *];exact⟨_,rfl⟩))
def f224 (a0:bf):Option bf:=
 qa (H4 a0.aB) fun v1=>
 qa (H5 a0.aA) fun v3=>
 En (⟨v1.1,v3.1⟩)
theorem zkb {a0 r}(h:f224 a0=En r):qc pr (X pr) 224 [aD a0]=En (aD r,I):=by
 unfold f224 at h
 refine zh uw ?_
 repeat' first|(replace h:=qb h;obtain⟨d,g,h⟩:=h;with_reducible first|replace g:=ju2 g|replace g:=jw7 g|skip)|(replace h:=qd h;rcases h with⟨g,h⟩|⟨g,h⟩)
 all_goals (cases h<;>(simp only[go_sem,seval,uw, *];exact⟨_,rfl⟩))
end Go.Z
namespace Go.Z
open Go Go.Abs Go.W
def BI (a0:bf)(a1:bf)(s0:Int):Option (Int⊕(Unit⊕Int)):=
 cond (decide (s0<((a0.aB.getD []).length:Int)))
  (qa (qr (a0.aB.getD []) s0) fun ea=>
  qa (qr (a1.aB.getD []) s0) fun gV=>
  cond (decide (ea.k=gV.k)&&decide (ea.n=gV.n))
   (En (.inl (qe .i64 (s0+1))))
   (En (.inr (.inl ()))))
  (En (.inr (.inr s0)))
def Pl (a0:bf)(a1:bf)(s0:Int):aY:=⟨[(2,.ai (aD a0),I),(3,.ai (aD a1),I),(5,Iv s0,I)],[]⟩
def Pm (a0:bf)(a1:bf):Unit⊕Int→jf×aY
 | .inl d=>(.ret,⟨[(4,.bool I,I)],[]⟩)
 | .inr d=>(.exit 0,⟨[(2,.ai (aD a0),I),(3,.ai (aD a1),I),(5,Iv d,I),(27,.bool I,I)],[]⟩)
theorem jxv (a0:bf)(a1:bf)(s0:Int)(r)(h:BI a0 a1 s0=En r):jw pr Pn (Pl a0 a1) (Pm a0 a1) s0 r:=by
 unfold BI at h
 repeat' first|(replace h:=qb h;obtain⟨d,g,h⟩:=h)|(replace h:=qd h;rcases h with⟨g,h⟩|⟨g,h⟩)
 all_goals (cases h<;>((first|refine qw ?_|refine jm ?_);simp only[go_sem,seval,Pn,Pl,jg,Pm, *]<;>rfl))
theorem jtv (a0:bf)(a1:bf){s0 d}(h:bu (BI a0 a1) s0=En d):X pr (.loop Pn) (Pl a0 a1 s0)=En (Pm a0 a1 d):=zc (jxv a0 a1) h
def BJ (a0:bf)(a1:bf)(s1:Int):Option (Int⊕(Unit⊕Int)):=
 cond (decide (s1<((a0.aA.getD []).length:Int)))
  (qa (qr (a0.aA.getD []) s1) fun tf=>
  qa (qr (a1.aA.getD []) s1) fun v40=>
  cond (decide (tf.k=v40.k)&&decide (tf.a=v40.a)&&decide (tf.b=v40.b))
   (En (.inl (qe .i64 (s1+1))))
   (En (.inr (.inl ()))))
  (En (.inr (.inr s1)))
def Po (a0:bf)(a1:bf)(s1:Int):aY:=⟨[(2,.ai (aD a0),I),(3,.ai (aD a1),I),(6,Iv s1,I)],[]⟩
def Pp (a0:bf)(a1:bf):Unit⊕Int→jf×aY
 | .inl d=>(.ret,⟨[(4,.bool I,I)],[]⟩)
 | .inr d=>(.exit 2,⟨[(2,.ai (aD a0),I),(3,.ai (aD a1),I),(6,Iv d,I),(45,.bool I,I)],[]⟩)
theorem jw3 (a0:bf)(a1:bf)(s1:Int)(r)(h:BJ a0 a1 s1=En r):jw pr Pq (Po a0 a1) (Pp a0 a1) s1 r:=by
 unfold BJ at h
 repeat' first|(replace h:=qb h;obtain⟨d,g,h⟩:=h)|(replace h:=qd h;rcases h with⟨g,h⟩|⟨g,h⟩)
 all_goals (cases h<;>((first|refine qw ?_|refine jm ?_);simp only[go_sem,seval,Pq,Po,jg,Pp, *]<;>rfl))
theorem jr0 (a0:bf)(a1:bf){s1 d}(h:bu (BJ a0 a1) s1=En d):X pr (.loop Pq) (Po a0 a1 s1)=En (Pp a0 a1 d):=zc (jw3 a0 a1) h
def EB (a0:bf)(a1:bf):Option Bool:=
 cond (decide (((a0.aB.getD []).length:Int)=((a1.aB.getD []).length:Int)))
  (cond (decide (((a0.aA.getD []).length:Int)=((a1.aA.getD []).length:Int)))
   (qa (bu (BI a0 a1) 0) fun d21=>match d21 with
    | .inl d23=>
     En I
    | .inr d24=>
     qa (bu (BJ a0 a1) 0) fun d43=>match d43 with
      | .inl d45=>
       En I
      | .inr d46=>
       En Ga)
   (En I))
  (En I)
theorem jun {a0 a1 r}(h:EB a0 a1=En r):qc pr (X pr) 116 [aD a0,aD a1]=En (.bool r,I):=by
 unfold EB at h
 refine zh xF ?_
 repeat' first|(replace h:=qb h;obtain⟨d,g,h⟩:=h;with_reducible first|(replace g:=jtv a0 a1 g;rcases d with d|d<;>dsimp only[Pl,Pm,zf]at g h)|(replace g:=jr0 a0 a1 g;rcases d with d|d<;>dsimp only[Po,Pp,zf]at g h)|skip)|(replace h:=qd h;rcases h with⟨g,h⟩|⟨g,h⟩)
 all_goals (cases h<;>(simp only[go_sem,seval,xF, *];exact⟨_,rfl⟩))
def BK (a0:aC)(a1:aC)(s0:Int):Option (Int⊕(Unit⊕Int)):=
 cond (decide (s0<((a0.aH.getD []).length:Int)))
  (qa (qr (a0.aH.getD []) s0) fun v23=>
  qa (qr (a1.aH.getD []) s0) fun v25=>
  qa (EB v23 v25) fun tn=>
  cond tn
   (En (.inl (qe .i64 (s0+1))))
   (En (.inr (.inl ()))))
  (En (.inr (.inr s0)))
def Pr (a0:aC)(a1:aC)(s0:Int):aY:=⟨[(2,.ai (aP a0),I),(3,.ai (aP a1),I),(5,Iv s0,I)],[]⟩
def Ps (a0:aC)(a1:aC):Unit⊕Int→jf×aY
 | .inl d=>(.ret,⟨[(4,.bool I,I)],[]⟩)
 | .inr d=>(.exit 0,⟨[(2,.ai (aP a0),I),(3,.ai (aP a1),I),(5,Iv d,I),(32,.bool I,I)],[]⟩)
theorem j3q (a0:aC)(a1:aC)(s0:Int)(r)(h:BK a0 a1 s0=En r):jw pr Pt (Pr a0 a1) (Ps a0 a1) s0 r:=by
 unfold BK at h
 repeat' first|(replace h:=qb h;obtain⟨d,g,h⟩:=h;with_reducible first|replace g:=jun g|skip)|(replace h:=qd h;rcases h with⟨g,h⟩|⟨g,h⟩)
 all_goals (cases h<;>((first|refine qw ?_|refine jm ?_);simp only[go_sem,seval,Pt,Pr,jg,Ps, *]<;>rfl))
theorem j51 (a0:aC)(a1:aC){s0 d}(h:bu (BK a0 a1) s0=En d):X pr (.loop Pt) (Pr a0 a1 s0)=En (Ps a0 a1 d):=zc (j3q a0 a1) h
def f56 (a0:aC)(a1:aC):Option Bool:=
 cond (decide (a0.name=a1.name))
  (qa (EB (⟨a0.dn,a0.dt⟩) (⟨a1.dn,a1.dt⟩)) fun v2=>
  cond v2
   (cond (decide (((a0.aH.getD []).length:Int)=((a1.aH.getD []).length:Int)))
    (qa (bu (BK a0 a1) 0) fun d30=>match d30 with
     | .inl d32=>
      En I
     | .inr d33=>
      En Ga)
    (En I))
   (En I))
  (En I)
theorem W56 {a0 a1 r}(h:f56 a0 a1=En r):qc pr (X pr) 56 [aP a0,aP a1]=En (.bool r,I):=by
 unfold f56 at h
 refine zh Pu ?_
 repeat' first|(replace h:=qb h;obtain⟨d,g,h⟩:=h;with_reducible first|replace g:=jun g|(replace g:=j51 a0 a1 g;rcases d with d|d<;>dsimp only[Pr,Ps,zf]at g h)|skip)|(replace h:=qd h;rcases h with⟨g,h⟩|⟨g,h⟩)
 all_goals (cases h<;>(simp only[go_sem,seval,Pu, *];exact⟨_,rfl⟩))
def BL (a0:bg)(a1:bg)(s0:Int):Option (Int⊕(Unit⊕Int)):=
 cond (decide (s0<((a0.uses.getD []).length:Int)))
  (qa (qr (a0.uses.getD []) s0) fun v22=>
  qa (qr (a1.uses.getD []) s0) fun v24=>
  cond (decide (v22.k=v24.k)&&decide (v22.n=v24.n))
   (En (.inl (qe .i64 (s0+1))))
   (En (.inr (.inl ()))))
  (En (.inr (.inr s0)))
def Pv (a0:bg)(a1:bg)(s0:Int):aY:=⟨[(2,.ai (aU a0),I),(3,.ai (aU a1),I),(5,Iv s0,I)],[]⟩
def Px (a0:bg)(a1:bg):Unit⊕Int→jf×aY
 | .inl d=>(.ret,⟨[(4,.bool I,I)],[]⟩)
 | .inr d=>(.exit 0,⟨[(2,.ai (aU a0),I),(3,.ai (aU a1),I),(5,Iv d,I),(69,.bool I,I)],[]⟩)
theorem j1b (a0:bg)(a1:bg)(s0:Int)(r)(h:BL a0 a1 s0=En r):jw pr Py (Pv a0 a1) (Px a0 a1) s0 r:=by
 unfold BL at h
 repeat' first|(replace h:=qb h;obtain⟨d,g,h⟩:=h)|(replace h:=qd h;rcases h with⟨g,h⟩|⟨g,h⟩)
 all_goals (cases h<;>((first|refine qw ?_|refine jm ?_);simp only[go_sem,seval,Py,Pv,jg,Px, *]<;>rfl))
theorem j0p (a0:bg)(a1:bg){s0 d}(h:bu (BL a0 a1) s0=En d):X pr (.loop Py) (Pv a0 a1 s0)=En (Px a0 a1 d):=zc (j1b a0 a1) h
def BM (a0:bg)(a1:bg)(s1:Int):Option (Int⊕(Unit⊕Int)):=
 cond (decide (s1<((a0.results.getD []).length:Int)))
  (qa (qr (a0.results.getD []) s1) fun pj=>
  qa (qr (a1.results.getD []) s1) fun v46=>
  cond (decide (pj.k=v46.k)&&decide (pj.a=v46.a)&&decide (pj.b=v46.b))
   (En (.inl (qe .i64 (s1+1))))
   (En (.inr (.inl ()))))
  (En (.inr (.inr s1)))
def Pz (a0:bg)(a1:bg)(s1:Int):aY:=⟨[(2,.ai (aU a0),I),(3,.ai (aU a1),I),(6,Iv s1,I)],[]⟩
def PA (a0:bg)(a1:bg):Unit⊕Int→jf×aY
 | .inl d=>(.ret,⟨[(4,.bool I,I)],[]⟩)
 | .inr d=>(.exit 2,⟨[(2,.ai (aU a0),I),(3,.ai (aU a1),I),(6,Iv d,I),(87,.bool I,I)],[]⟩)
theorem jz7 (a0:bg)(a1:bg)(s1:Int)(r)(h:BM a0 a1 s1=En r):jw pr PB (Pz a0 a1) (PA a0 a1) s1 r:=by
 unfold BM at h
 repeat' first|(replace h:=qb h;obtain⟨d,g,h⟩:=h)|(replace h:=qd h;rcases h with⟨g,h⟩|⟨g,h⟩)
 all_goals (cases h<;>((first|refine qw ?_|refine jm ?_);simp only[go_sem,seval,PB,Pz,jg,PA, *]<;>rfl))
theorem j09 (a0:bg)(a1:bg){s1 d}(h:bu (BM a0 a1) s1=En d):X pr (.loop PB) (Pz a0 a1 s1)=En (PA a0 a1 d):=zc (jz7 a0 a1) h
def f57 (a0:bg)(a1:bg):Option Bool:=
 cond (decide (a0.name=a1.name))
  (cond (decide (a0.product=a1.product))
   (cond (decide (a0.version=a1.version))
    (cond (decide (a0.partner=a1.partner))
     (cond (a0.ar == a1.ar)
      (cond (decide (a0.ah=a1.ah))
       (cond (decide (((a0.uses.getD []).length:Int)=((a1.uses.getD []).length:Int)))
        (cond (decide (((a0.results.getD []).length:Int)=((a1.results.getD []).length:Int)))
         (qa (bu (BL a0 a1) 0) fun d27=>match d27 with
          | .inl d29=>
           En I
          | .inr d30=>
           qa (bu (BM a0 a1) 0) fun d49=>match d49 with
            | .inl d51=>
             En I
            | .inr d52=>
             En Ga)
         (En I))
        (En I))
       (En I))
      (En I))
     (En I))
    (En I))
   (En I))
  (En I)
theorem W57 {a0 a1 r}(h:f57 a0 a1=En r):qc pr (X pr) 57 [aU a0,aU a1]=En (.bool r,I):=by
 unfold f57 at h
 refine zh PD ?_
 repeat' first|(replace h:=qb h;obtain⟨d,g,h⟩:=h;with_reducible first|(replace g:=j0p a0 a1 g;rcases d with d|d<;>dsimp only[Pv,Px,zf]at g h)|(replace g:=j09 a0 a1 g;rcases d with d|d<;>dsimp only[Pz,PA,zf]at g h)|skip)|(replace h:=qd h;rcases h with⟨g,h⟩|⟨g,h⟩)
 all_goals (cases h<;>(simp only[go_sem,seval,PD, *];exact⟨_,rfl⟩))
def BN (a0:ak)(a1:ak)(s0:Int):Option (Int⊕(Unit⊕Int)):=
 cond (decide (s0<((a0.au.getD []).length:Int)))
  (qa (qr (a0.au.getD []) s0) fun gV=>
  qa (qr (a1.au.getD []) s0) fun v20=>
  cond (decide (gV.name=v20.name)&&decide (gV.kind=v20.kind)&&decide (gV.count=v20.count)&&decide (gV.left=v20.left)&&decide (gV.held=v20.held))
   (En (.inl (qe .i64 (s0+1))))
   (En (.inr (.inl ()))))
  (En (.inr (.inr s0)))
def PE (a0:ak)(a1:ak)(s0:Int):aY:=⟨[(2,.ai (aR a0),I),(3,.ai (aR a1),I),(5,Iv s0,I)],[]⟩
def PF (a0:ak)(a1:ak):Unit⊕Int→jf×aY
 | .inl d=>(.ret,⟨[(4,.bool I,I)],[]⟩)
 | .inr d=>(.exit 0,⟨[(2,.ai (aR a0),I),(3,.ai (aR a1),I),(5,Iv d,I),(44,.bool I,I)],[]⟩)
theorem j04 (a0:ak)(a1:ak)(s0:Int)(r)(h:BN a0 a1 s0=En r):jw pr PG (PE a0 a1) (PF a0 a1) s0 r:=by
 unfold BN at h
 repeat' first|(replace h:=qb h;obtain⟨d,g,h⟩:=h)|(replace h:=qd h;rcases h with⟨g,h⟩|⟨g,h⟩)
 all_goals (cases h<;>((first|refine qw ?_|refine jm ?_);simp only[go_sem,seval,PG,PE,jg,PF, *]<;>rfl))
theorem j8r (a0:ak)(a1:ak){s0 d}(h:bu (BN a0 a1) s0=En d):X pr (.loop PG) (PE a0 a1 s0)=En (PF a0 a1 d):=zc (j04 a0 a1) h
def BO (a0:ak)(a1:ak)(s1:Int):Option (Int⊕(Unit⊕Int)):=
 cond (decide (s1<((a0.ae.getD []).length:Int)))
  (qa (qr (a0.ae.getD []) s1) fun pj=>
  qa (qr (a1.ae.getD []) s1) fun v46=>
  qa (f56 pj v46) fun Jk=>
  cond Jk
   (En (.inl (qe .i64 (s1+1))))
   (En (.inr (.inl ()))))
  (En (.inr (.inr s1)))
def PH (a0:ak)(a1:ak)(s1:Int):aY:=⟨[(2,.ai (aR a0),I),(3,.ai (aR a1),I),(6,Iv s1,I)],[]⟩
def PI (a0:ak)(a1:ak):Unit⊕Int→jf×aY
 | .inl d=>(.ret,⟨[(4,.bool I,I)],[]⟩)
 | .inr d=>(.exit 2,⟨[(2,.ai (aR a0),I),(3,.ai (aR a1),I),(6,Iv d,I),(62,.bool I,I)],[]⟩)
theorem jz3 (a0:ak)(a1:ak)(s1:Int)(r)(h:BO a0 a1 s1=En r):jw pr PJ (PH a0 a1) (PI a0 a1) s1 r:=by
 unfold BO at h
 repeat' first|(replace h:=qb h;obtain⟨d,g,h⟩:=h;with_reducible first|replace g:=W56 g|skip)|(replace h:=qd h;rcases h with⟨g,h⟩|⟨g,h⟩)
 all_goals (cases h<;>((first|refine qw ?_|refine jm ?_);simp only[go_sem,seval,PJ,PH,jg,PI, *]<;>rfl))
theorem j45 (a0:ak)(a1:ak){s1 d}(h:bu (BO a0 a1) s1=En d):X pr (.loop PJ) (PH a0 a1 s1)=En (PI a0 a1 d):=zc (jz3 a0 a1) h
def BP (a0:ak)(a1:ak)(s2:Int):Option (Int⊕(Unit⊕Int)):=
 cond (decide (s2<((a0.units.getD []).length:Int)))
  (qa (qr (a0.units.getD []) s2) fun v72=>
  qa (qr (a1.units.getD []) s2) fun Ye=>
  qa (f57 v72 Ye) fun v76=>
  cond v76
   (En (.inl (qe .i64 (s2+1))))
   (En (.inr (.inl ()))))
  (En (.inr (.inr s2)))
def PK (a0:ak)(a1:ak)(s2:Int):aY:=⟨[(2,.ai (aR a0),I),(3,.ai (aR a1),I),(7,Iv s2,I)],[]⟩
def PL (a0:ak)(a1:ak):Unit⊕Int→jf×aY
 | .inl d=>(.ret,⟨[(4,.bool I,I)],[]⟩)
 | .inr d=>(.exit 4,⟨[(2,.ai (aR a0),I),(3,.ai (aR a1),I),(7,Iv d,I),(81,.bool I,I)],[]⟩)
theorem j1z (a0:ak)(a1:ak)(s2:Int)(r)(h:BP a0 a1 s2=En r):jw pr PN (PK a0 a1) (PL a0 a1) s2 r:=by
 unfold BP at h
 repeat' first|(replace h:=qb h;obtain⟨d,g,h⟩:=h;with_reducible first|replace g:=W57 g|skip)|(replace h:=qd h;rcases h with⟨g,h⟩|⟨g,h⟩)
 all_goals (cases h<;>((first|refine qw ?_|refine jm ?_);simp only[go_sem,seval,PN,PK,jg,PL, *]<;>rfl))
theorem jz0 (a0:ak)(a1:ak){s2 d}(h:bu (BP a0 a1) s2=En d):X pr (.loop PN) (PK a0 a1 s2)=En (PL a0 a1 d):=zc (j1z a0 a1) h
def f17 (a0:ak)(a1:ak):Option Bool:=
 cond (decide (a0.day=a1.day))
  (cond (decide (((a0.au.getD []).length:Int)=((a1.au.getD []).length:Int)))
   (cond (decide (((a0.ae.getD []).length:Int)=((a1.ae.getD []).length:Int)))
    (cond (decide (((a0.units.getD []).length:Int)=((a1.units.getD []).length:Int)))
     (qa (bu (BN a0 a1) 0) fun d23=>match d23 with
      | .inl d25=>
       En I
      | .inr d26=>
       qa (bu (BO a0 a1) 0) fun d51=>match d51 with
        | .inl d53=>
         En I
        | .inr d54=>
         qa (bu (BP a0 a1) 0) fun d79=>match d79 with
          | .inl d81=>
           En I
          | .inr d82=>
           En Ga)
     (En I))
    (En I))
   (En I))
  (En I)
theorem W17 {a0 a1 r}(h:f17 a0 a1=En r):qc pr (X pr) 17 [aR a0,aR a1]=En (.bool r,I):=by
 unfold f17 at h
 refine zh PO ?_
 repeat' first|(replace h:=qb h;obtain⟨d,g,h⟩:=h;with_reducible first|(replace g:=j8r a0 a1 g;rcases d with d|d<;>dsimp only[PE,PF,zf]at g h)|(replace g:=j45 a0 a1 g;rcases d with d|d<;>dsimp only[PH,PI,zf]at g h)|(replace g:=jz0 a0 a1 g;rcases d with d|d<;>dsimp only[PK,PL,zf]at g h)|skip)|(replace h:=qd h;rcases h with⟨g,h⟩|⟨g,h⟩)
 all_goals (cases h<;>(simp only[go_sem,seval,PO, *];exact⟨_,rfl⟩))
def f89 (a0:List UInt8):Option rK:=
 cond (decide (a0=([108,111,116]:List UInt8)))
  (En (⟨2,2,Ga⟩))
  (cond (decide (a0=([112,114,111,100,117,99,116]:List UInt8)))
   (En (⟨1,1,Ga⟩))
   (cond (decide (a0=([105,115,115,117,101]:List UInt8)))
    (En (⟨1,1,Ga⟩))
    (cond (decide (a0=([117,112,100,97,116,101]:List UInt8)))
     (En (⟨1,1,Ga⟩))
     (cond (decide (a0=([104,111,108,100]:List UInt8)))
      (En (⟨1,1,Ga⟩))
      (cond (decide (a0=([102,114,101,101]:List UInt8)))
       (En (⟨1,1,Ga⟩))
       (cond (decide (a0=([115,104,105,112]:List UInt8)))
        (En (⟨1,1,Ga⟩))
        (cond (decide (a0=([99,111,109,112,108,97,105,110]:List UInt8)))
         (En (⟨1,1,Ga⟩))
         (cond (decide (a0=([110,101,101,100]:List UInt8)))
          (En (⟨2,2,Ga⟩))
          (cond (decide (a0=([117,115,101]:List UInt8)))
           (En (⟨2,2,Ga⟩))
           (cond (decide (a0=([109,101,97,115,117,114,101]:List UInt8)))
            (En (⟨2,2,Ga⟩))
            (cond (decide (a0=([116,101,115,116]:List UInt8)))
             (En (⟨2,3,Ga⟩))
             (cond (decide (a0=([98,117,105,108,100]:List UInt8)))
              (En (⟨2,1,Ga⟩))
              (cond (decide (a0=([112,97,105,114]:List UInt8)))
               (En (⟨2,1,Ga⟩))
               (cond (decide (a0=([117,110,100,111]:List UInt8)))
                (En (⟨0,0,Ga⟩))
                (En (⟨0,0,I⟩))))))))))))))))
theorem W89 {a0 r}(h:f89 a0=En r):qc pr (X pr) 89 [.str a0]=En (.agg [Iv r.names,Iv r.values,.bool r.known],I):=by
 unfold f89 at h
 refine zh JI ?_
 repeat' first|(replace h:=qd h;rcases h with⟨g,h⟩|⟨g,h⟩)
 all_goals (cases h<;>(simp only[go_sem,seval,JI, *];exact⟨_,rfl⟩))
def BE (a0:GEv)(v4:rK)(s0:Int):Option (Int⊕(Unit⊕Int)):=
 cond (decide (s0<v4.names))
  (qa (qr (a0.names.getD []) s0) fun v22=>
  qa (f90 v22) fun v24=>
  cond v24
   (En (.inl (qe .i64 (s0+1))))
   (En (.inr (.inl ()))))
  (En (.inr (.inr s0)))
def PP (a0:GEv)(v4:rK)(s0:Int):aY:=⟨[(1,.ai (aE a0),I),(3,.ai (.agg [Iv v4.names,Iv v4.values,.bool Ga]),I),(4,Iv s0,I)],[]⟩
def PQ (a0:GEv)(v4:rK):Unit⊕Int→jf×aY
 | .inl d=>(.ret,⟨[(2,Iv 8,I)],[]⟩)
 | .inr d=>(.exit 0,⟨[(1,.ai (aE a0),I),(3,.ai (.agg [Iv v4.names,Iv v4.values,.bool Ga]),I),(4,Iv d,I),(32,.bool I,I)],[]⟩)
theorem j8s (a0:GEv)(v4:rK)(s0:Int)(r)(h:BE a0 v4 s0=En r):jw pr PR (PP a0 v4) (PQ a0 v4) s0 r:=by
 unfold BE at h
 repeat' first|(replace h:=qb h;obtain⟨d,g,h⟩:=h;with_reducible first|replace g:=W90 g|skip)|(replace h:=qd h;rcases h with⟨g,h⟩|⟨g,h⟩)
 all_goals (cases h<;>((first|refine qw ?_|refine jm ?_);simp only[go_sem,seval,PR,PP,jg,PQ, *]<;>rfl))
theorem j2s (a0:GEv)(v4:rK){s0 d}(h:bu (BE a0 v4) s0=En d):X pr (.loop PR) (PP a0 v4 s0)=En (PQ a0 v4 d):=zc (j8s a0 v4) h
def BF (a0:GEv)(v4:rK)(s1:Int):Option (Int⊕(Unit⊕Int)):=
 cond (decide (s1<v4.values))
  (qa (qr (a0.values.getD []) s1) fun pj=>
  qa (f88 pj 0 999999999) fun v46=>
  cond v46
   (En (.inr (.inl ())))
   (En (.inl (qe .i64 (s1+1)))))
  (En (.inr (.inr s1)))
def PS (a0:GEv)(v4:rK)(s1:Int):aY:=⟨[(1,.ai (aE a0),I),(3,.ai (.agg [Iv v4.names,Iv v4.values,.bool Ga]),I),(5,Iv s1,I)],[]⟩
def PT (a0:GEv)(v4:rK):Unit⊕Int→jf×aY
 | .inl d=>(.ret,⟨[(2,Iv 3,I)],[]⟩)
 | .inr d=>(.exit 2,⟨[(1,.ai (aE a0),I),(3,.ai (.agg [Iv v4.names,Iv v4.values,.bool Ga]),I),(5,Iv d,I),(45,.bool I,I)],[]⟩)
theorem j5j (a0:GEv)(v4:rK)(s1:Int)(r)(h:BF a0 v4 s1=En r):jw pr PU (PS a0 v4) (PT a0 v4) s1 r:=by
 unfold BF at h
 repeat' first|(replace h:=qb h;obtain⟨d,g,h⟩:=h;with_reducible first|replace g:=Yc g|skip)|(replace h:=qd h;rcases h with⟨g,h⟩|⟨g,h⟩)
 all_goals (cases h<;>((first|refine qw ?_|refine jm ?_);simp only[go_sem,seval,PU,PS,jg,PT, *]<;>rfl))
theorem j5i (a0:GEv)(v4:rK){s1 d}(h:bu (BF a0 v4) s1=En d):X pr (.loop PU) (PS a0 v4 s1)=En (PT a0 v4 d):=zc (j5j a0 v4) h
def f33 (a0:GEv):Option Int:=
 qa (f88 a0.number 1 1000) fun v1=>
 cond v1
  (En 3)
  (qa (f89 a0.kind) fun v4=>
  cond v4.known
   (cond (decide (((a0.names.getD []).length:Int)=v4.names))
    (cond (decide (((a0.values.getD []).length:Int)=v4.values))
     (qa (bu (BE a0 v4) 0) fun d27=>match d27 with
      | .inl d29=>
       En 8
      | .inr d30=>
       qa (bu (BF a0 v4) 0) fun d49=>match d49 with
        | .inl d51=>
         En 3
        | .inr d52=>
         cond (decide (a0.text=[]))
          (En 0)
          (En 1))
     (En 2))
    (En 2))
   (En 13))
theorem W33 {a0 r}(h:f33 a0=En r):qc pr (X pr) 33 [aE a0]=En (Iv r,I):=by
 unfold f33 at h
 refine zh PV ?_
 repeat' first|(replace h:=qb h;obtain⟨d,g,h⟩:=h;with_reducible first|replace g:=Yc g|replace g:=W89 g|(replace g:=j2s a0 _ g;rcases d with d|d<;>dsimp only[PP,PQ,zf]at g h)|(replace g:=j5i a0 _ g;rcases d with d|d<;>dsimp only[PS,PT,zf]at g h)|skip)|(replace h:=qd h;rcases h with⟨g,h⟩|⟨g,h⟩)
 all_goals (cases h<;>(simp only[go_sem,seval,PV, *];exact⟨_,rfl⟩))
end Go.Z
end
