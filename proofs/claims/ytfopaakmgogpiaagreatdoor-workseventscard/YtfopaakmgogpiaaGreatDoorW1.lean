/- Chapter 10. -/
import Derived.Test.YtfopaakmgogpiaaGreatDoorCA
import Derived.Test.YtfopaakmgogpiaaGreatDoorAbsL
set_option linter.unusedVariables false
set_option linter.unusedSimpArgs false
set_option maxRecDepth 100000
set_option maxHeartbeats 4000000
noncomputable section
open Option renaming some→I,none→E0
open Bool renaming false→Ef,true→En
namespace Go.Z
open Go Go.Abs Go.W
def f53 (a0:Bool)(a1:Int):Option Int:=
 cond a0
  (I a1)
  (I 0)
theorem ei {a0:Bool}{a1:Int}{r}(h:f53 a0 a1=I r):jy pr (X pr) 53 [.bool a0,Iv a1]=I (Iv r,Ef):=by
 unfold f53 at h
 refine y6 Ig ?_
 repeat' first|(replace h:=jz h;rcases h with⟨g,h⟩|⟨g,h⟩)|fail
 all_goals (cases h<;>(simp only[go_sem,seval,Ig, *];exact⟨_,rfl⟩))
def AF (a0:Option (List Int))(s0:Int):Option (Int⊕(Int⊕Int)):=
 cond (decide (s0<((a0.getD []).length:Int)))
  (jw (zo (a0.getD []) s0) fun v10=>
  cond (decide (v10=0))
   (I (.inl (j6 .i64 (s0+1))))
   (I (.inr (.inl v10))))
  (I (.inr (.inr s0)))
def Ih (a0:Option (List Int))(s0:Int):qg:=⟨[(5,sl 1 kr a0,Ef),(6,Lv a0,Ef),(7,Iv s0,Ef)],[]⟩
def Ii (a0:Option (List Int)):Int⊕Int→qo×qg
 | .inl d=>(.ret,⟨[(2,Iv d,Ef)],[]⟩)
 | .inr d=>(.exit 0,⟨[(5,sl 1 kr a0,Ef),(6,Lv a0,Ef),(7,Iv d,Ef),(8,.bool Ef,Ef)],[]⟩)
theorem j39 (a0:Option (List Int))(s0:Int)(r)(h:AF a0 s0=I r):yp pr Ij (Ih a0) (Ii a0) s0 r:=by
 unfold AF at h
 repeat' first|(replace h:=jx h;obtain⟨d,g,h⟩:=h)|(replace h:=jz h;rcases h with⟨g,h⟩|⟨g,h⟩)|fail
 all_goals (cases h<;>(first|(refine zw ?_;simp only[go_sem,seval,Ij,Ih,zn,Ii, *]<;>rfl)|(refine yj ?_;simp only[go_sem,seval,Ij,Ih,zn,Ii, *]<;>rfl)))
theorem j2v (a0:Option (List Int)){s0:Int}{d}(h:bf (AF a0) s0=I d):X pr (.loop Ij) (Ih a0 s0)=I (Ii a0 d):=y7 (j39 a0) (fun d=>by rcases d with d|d<;>(intro hh;cases hh)) h
def f51 (a0:Option (List Int)):Option Int:=
 jw (bf (AF a0) 0) fun d13=>match d13 with
  | .inl d15=>
   I d15
  | .inr d16=>
   I 0
theorem iw {a0:Option (List Int)}{r}(h:f51 a0=I r):jy pr (X pr) 51 [sl 1 kr a0]=I (Iv r,Ef):=by
 unfold f51 at h
 refine y6 Ik ?_
 repeat' first|(replace h:=jx h;obtain⟨d,g,h⟩:=h;with_reducible first|(replace g:=j2v a0 g;rcases d with d|d<;>dsimp only[Ih,Ii,y9]at g h)|skip)|(replace h:=jz h;rcases h with⟨g,h⟩|⟨g,h⟩)|fail
 all_goals (cases h<;>(simp only[go_sem,seval,Ik, *];exact⟨_,rfl⟩))
def f52 (a0:Int)(a1:Int)(a2:Int):Option Int:=
 cond (decide (a0<a1))
  (jw (f53 En 3) fun v2=>
  I v2)
  (jw (f53 (decide (a2<a0)) 3) fun v4=>
  I v4)
theorem NV {a0:Int}{a1:Int}{a2:Int}{r}(h:f52 a0 a1 a2=I r):jy pr (X pr) 52 [Iv a0,Iv a1,Iv a2]=I (Iv r,Ef):=by
 unfold f52 at h
 refine y6 Il ?_
 repeat' first|(replace h:=jx h;obtain⟨d,g,h⟩:=h;with_reducible first|replace g:=ei g|skip)|(replace h:=jz h;rcases h with⟨g,h⟩|⟨g,h⟩)|fail
 all_goals (cases h<;>(simp only[go_sem,seval,Il, *];exact⟨_,rfl⟩))
def xS (a0:List UInt8)(s0:Int):Option (Int⊕(Unit⊕Int)):=
 cond (decide (s0<(a0.length:Int)))
  (jw (zo a0 s0) fun v70=>
  cond (decide (65≤(v70.toNat:Int)))
   (cond (decide ((v70.toNat:Int)≤90))
    (cond (decide (48≤(v70.toNat:Int)))
     (cond (decide ((v70.toNat:Int)≤57))
      (I (.inl (j6 .i64 (s0+1))))
      (I (.inl (j6 .i64 (s0+1)))))
     (I (.inl (j6 .i64 (s0+1)))))
    (cond (decide (97≤(v70.toNat:Int)))
     (cond (decide (48≤(v70.toNat:Int)))
      (cond (decide ((v70.toNat:Int)≤57))
       (cond (decide ((v70.toNat:Int)≤122))
        (I (.inl (j6 .i64 (s0+1))))
        (cond (decide (s0=0))
         (I (.inr (.inl ())))
         (I (.inl (j6 .i64 (s0+1))))))
       (cond (decide ((v70.toNat:Int)≤122))
        (I (.inl (j6 .i64 (s0+1))))
        (cond (decide (s0=0))
         (I (.inr (.inl ())))
         (cond (decide ((v70.toNat:Int)=95))
          (I (.inl (j6 .i64 (s0+1))))
          (I (.inr (.inl ())))))))
      (cond (decide ((v70.toNat:Int)≤122))
       (I (.inl (j6 .i64 (s0+1))))
       (cond (decide (s0=0))
        (I (.inr (.inl ())))
        (cond (decide ((v70.toNat:Int)=95))
         (I (.inl (j6 .i64 (s0+1))))
         (I (.inr (.inl ())))))))
     (cond (decide (48≤(v70.toNat:Int)))
      (cond (decide ((v70.toNat:Int)≤57))
       (cond (decide (s0=0))
        (I (.inr (.inl ())))
        (I (.inl (j6 .i64 (s0+1)))))
       (cond (decide (s0=0))
        (I (.inr (.inl ())))
        (cond (decide ((v70.toNat:Int)=95))
         (I (.inl (j6 .i64 (s0+1))))
         (I (.inr (.inl ()))))))
      (cond (decide (s0=0))
       (I (.inr (.inl ())))
       (cond (decide ((v70.toNat:Int)=95))
        (I (.inl (j6 .i64 (s0+1))))
        (I (.inr (.inl ()))))))))
   (cond (decide (97≤(v70.toNat:Int)))
    (cond (decide (48≤(v70.toNat:Int)))
     (cond (decide ((v70.toNat:Int)≤57))
      (cond (decide ((v70.toNat:Int)≤122))
       (I (.inl (j6 .i64 (s0+1))))
       (cond (decide (s0=0))
        (I (.inr (.inl ())))
        (I (.inl (j6 .i64 (s0+1))))))
      (cond (decide ((v70.toNat:Int)≤122))
       (I (.inl (j6 .i64 (s0+1))))
       (cond (decide (s0=0))
        (I (.inr (.inl ())))
        (cond (decide ((v70.toNat:Int)=95))
         (I (.inl (j6 .i64 (s0+1))))
         (I (.inr (.inl ())))))))
     (cond (decide ((v70.toNat:Int)≤122))
      (I (.inl (j6 .i64 (s0+1))))
      (cond (decide (s0=0))
       (I (.inr (.inl ())))
       (cond (decide ((v70.toNat:Int)=95))
        (I (.inl (j6 .i64 (s0+1))))
        (I (.inr (.inl ())))))))
    (cond (decide (48≤(v70.toNat:Int)))
     (cond (decide ((v70.toNat:Int)≤57))
      (cond (decide (s0=0))
       (I (.inr (.inl ())))
       (I (.inl (j6 .i64 (s0+1)))))
      (cond (decide (s0=0))
       (I (.inr (.inl ())))
       (cond (decide ((v70.toNat:Int)=95))
        (I (.inl (j6 .i64 (s0+1))))
        (I (.inr (.inl ()))))))
     (cond (decide (s0=0))
      (I (.inr (.inl ())))
      (cond (decide ((v70.toNat:Int)=95))
       (I (.inl (j6 .i64 (s0+1))))
       (I (.inr (.inl ()))))))))
  (I (.inr (.inr s0)))
def Io (a0:List UInt8)(s0:Int):qg:=⟨[(0,.str a0,Ef),(3,Iv s0,Ef)],[]⟩
def Ip (a0:List UInt8):Unit⊕Int→qo×qg
 | .inl d=>(.ret,⟨[(2,.bool Ef,Ef)],[]⟩)
 | .inr d=>(.exit 0,⟨[(0,.str a0,Ef),(3,Iv d,Ef),(17,.bool Ef,Ef)],[]⟩)
theorem jw6 (a0:List UInt8)(s0:Int)(r)(h:xS a0 s0=I r):yp pr Iq (Io a0) (Ip a0) s0 r:=by
 unfold xS at h
 repeat' first|(replace h:=jx h;obtain⟨d,g,h⟩:=h)|(replace h:=jz h;rcases h with⟨g,h⟩|⟨g,h⟩)|fail
 all_goals (cases h<;>(first|(refine zw ?_;simp only[go_sem,seval,Iq,Io,q32,Ip, *]<;>rfl)|(refine yj ?_;simp only[go_sem,seval,Iq,Io,q32,Ip, *]<;>rfl)))
theorem jwk (a0:List UInt8){s0:Int}{d}(h:bf (xS a0) s0=I d):X pr (.loop Iq) (Io a0 s0)=I (Ip a0 d):=y7 (jw6 a0) (fun d=>by rcases d with d|d<;>(intro hh;cases hh)) h
def f26 (a0:List UInt8):Option Bool:=
 cond (decide ((a0.length:Int)=0))
  (I Ef)
  (cond (decide (24<(a0.length:Int)))
   (I Ef)
   (jw (bf (xS a0) 0) fun d112=>match d112 with
    | .inl d114=>
     I Ef
    | .inr d115=>
     I En))
theorem W26 {a0:List UInt8}{r}(h:f26 a0=I r):jy pr (X pr) 26 [.str a0]=I (.bool r,Ef):=by
 unfold f26 at h
 refine y6 NW ?_
 repeat' first|(replace h:=jx h;obtain⟨d,g,h⟩:=h;with_reducible first|(replace g:=jwk a0 g;rcases d with d|d<;>dsimp only[Io,Ip,y9]at g h)|skip)|(replace h:=jz h;rcases h with⟨g,h⟩|⟨g,h⟩)|fail
 all_goals (cases h<;>(simp only[go_sem,seval,NW, *];exact⟨_,rfl⟩))
def xT (a0:List UInt8):Option (Option (Nat)⊕(Nat⊕Nat)):=
 cond (decide (0<a0.length))
  (cond (decide (65≤((zg a0 0).1:Int)))
   (cond (decide (((zg a0 0).1:Int)≤90))
    (cond (decide (48≤((zg a0 0).1:Int)))
     (cond (decide (((zg a0 0).1:Int)≤57))
      (I (.inl (I (0+(zg a0 0).2))))
      (I (.inl (I (0+(zg a0 0).2)))))
     (I (.inl (I (0+(zg a0 0).2)))))
    (cond (decide (97≤((zg a0 0).1:Int)))
     (cond (decide (48≤((zg a0 0).1:Int)))
      (cond (decide (((zg a0 0).1:Int)≤57))
       (cond (decide (((zg a0 0).1:Int)≤122))
        (I (.inl (I (0+(zg a0 0).2))))
        (I (.inr (.inl (0+(zg a0 0).2)))))
       (cond (decide (((zg a0 0).1:Int)≤122))
        (I (.inl (I (0+(zg a0 0).2))))
        (I (.inr (.inl (0+(zg a0 0).2))))))
      (cond (decide (((zg a0 0).1:Int)≤122))
       (I (.inl (I (0+(zg a0 0).2))))
       (I (.inr (.inl (0+(zg a0 0).2))))))
     (cond (decide (48≤((zg a0 0).1:Int)))
      (cond (decide (((zg a0 0).1:Int)≤57))
       (I (.inr (.inl (0+(zg a0 0).2))))
       (I (.inr (.inl (0+(zg a0 0).2)))))
      (I (.inr (.inl (0+(zg a0 0).2)))))))
   (cond (decide (97≤((zg a0 0).1:Int)))
    (cond (decide (48≤((zg a0 0).1:Int)))
     (cond (decide (((zg a0 0).1:Int)≤57))
      (cond (decide (((zg a0 0).1:Int)≤122))
       (I (.inl (I (0+(zg a0 0).2))))
       (I (.inr (.inl (0+(zg a0 0).2)))))
      (cond (decide (((zg a0 0).1:Int)≤122))
       (I (.inl (I (0+(zg a0 0).2))))
       (I (.inr (.inl (0+(zg a0 0).2))))))
     (cond (decide (((zg a0 0).1:Int)≤122))
      (I (.inl (I (0+(zg a0 0).2))))
      (I (.inr (.inl (0+(zg a0 0).2))))))
    (cond (decide (48≤((zg a0 0).1:Int)))
     (cond (decide (((zg a0 0).1:Int)≤57))
      (I (.inr (.inl (0+(zg a0 0).2))))
      (I (.inr (.inl (0+(zg a0 0).2)))))
     (I (.inr (.inl (0+(zg a0 0).2)))))))
  (I (.inr (.inr 0)))
def xU (a0:List UInt8)(s0:Nat):Option (Option (Nat)⊕(Nat⊕Nat)):=
 cond (decide (s0<a0.length))
  (cond (decide (65≤((zg a0 s0).1:Int)))
   (cond (decide (((zg a0 s0).1:Int)≤90))
    (cond (decide (48≤((zg a0 s0).1:Int)))
     (cond (decide (((zg a0 s0).1:Int)≤57))
      (I (.inl (I (s0+(zg a0 s0).2))))
      (I (.inl (I (s0+(zg a0 s0).2)))))
     (I (.inl (I (s0+(zg a0 s0).2)))))
    (cond (decide (97≤((zg a0 s0).1:Int)))
     (cond (decide (48≤((zg a0 s0).1:Int)))
      (cond (decide (((zg a0 s0).1:Int)≤57))
       (cond (decide (((zg a0 s0).1:Int)≤122))
        (I (.inl (I (s0+(zg a0 s0).2))))
        (cond (decide ((s0:Int)=0))
         (I (.inr (.inl (s0+(zg a0 s0).2))))
         (I (.inl (I (s0+(zg a0 s0).2))))))
       (cond (decide (((zg a0 s0).1:Int)≤122))
        (I (.inl (I (s0+(zg a0 s0).2))))
        (cond (decide ((s0:Int)=0))
         (I (.inr (.inl (s0+(zg a0 s0).2))))
         (cond (decide (((zg a0 s0).1:Int)=95))
          (I (.inl (I (s0+(zg a0 s0).2))))
          (I (.inr (.inl (s0+(zg a0 s0).2))))))))
      (cond (decide (((zg a0 s0).1:Int)≤122))
       (I (.inl (I (s0+(zg a0 s0).2))))
       (cond (decide ((s0:Int)=0))
        (I (.inr (.inl (s0+(zg a0 s0).2))))
        (cond (decide (((zg a0 s0).1:Int)=95))
         (I (.inl (I (s0+(zg a0 s0).2))))
         (I (.inr (.inl (s0+(zg a0 s0).2))))))))
     (cond (decide (48≤((zg a0 s0).1:Int)))
      (cond (decide (((zg a0 s0).1:Int)≤57))
       (cond (decide ((s0:Int)=0))
        (I (.inr (.inl (s0+(zg a0 s0).2))))
        (I (.inl (I (s0+(zg a0 s0).2)))))
       (cond (decide ((s0:Int)=0))
        (I (.inr (.inl (s0+(zg a0 s0).2))))
        (cond (decide (((zg a0 s0).1:Int)=95))
         (I (.inl (I (s0+(zg a0 s0).2))))
         (I (.inr (.inl (s0+(zg a0 s0).2)))))))
      (cond (decide ((s0:Int)=0))
       (I (.inr (.inl (s0+(zg a0 s0).2))))
       (cond (decide (((zg a0 s0).1:Int)=95))
        (I (.inl (I (s0+(zg a0 s0).2))))
        (I (.inr (.inl (s0+(zg a0 s0).2)))))))))
   (cond (decide (97≤((zg a0 s0).1:Int)))
    (cond (decide (48≤((zg a0 s0).1:Int)))
     (cond (decide (((zg a0 s0).1:Int)≤57))
      (cond (decide (((zg a0 s0).1:Int)≤122))
       (I (.inl (I (s0+(zg a0 s0).2))))
       (cond (decide ((s0:Int)=0))
        (I (.inr (.inl (s0+(zg a0 s0).2))))
        (I (.inl (I (s0+(zg a0 s0).2))))))
      (cond (decide (((zg a0 s0).1:Int)≤122))
       (I (.inl (I (s0+(zg a0 s0).2))))
       (cond (decide ((s0:Int)=0))
        (I (.inr (.inl (s0+(zg a0 s0).2))))
        (cond (decide (((zg a0 s0).1:Int)=95))
         (I (.inl (I (s0+(zg a0 s0).2))))
         (I (.inr (.inl (s0+(zg a0 s0).2))))))))
     (cond (decide (((zg a0 s0).1:Int)≤122))
      (I (.inl (I (s0+(zg a0 s0).2))))
      (cond (decide ((s0:Int)=0))
       (I (.inr (.inl (s0+(zg a0 s0).2))))
       (cond (decide (((zg a0 s0).1:Int)=95))
        (I (.inl (I (s0+(zg a0 s0).2))))
        (I (.inr (.inl (s0+(zg a0 s0).2))))))))
    (cond (decide (48≤((zg a0 s0).1:Int)))
     (cond (decide (((zg a0 s0).1:Int)≤57))
      (cond (decide ((s0:Int)=0))
       (I (.inr (.inl (s0+(zg a0 s0).2))))
       (I (.inl (I (s0+(zg a0 s0).2)))))
      (cond (decide ((s0:Int)=0))
       (I (.inr (.inl (s0+(zg a0 s0).2))))
       (cond (decide (((zg a0 s0).1:Int)=95))
        (I (.inl (I (s0+(zg a0 s0).2))))
        (I (.inr (.inl (s0+(zg a0 s0).2)))))))
     (cond (decide ((s0:Int)=0))
      (I (.inr (.inl (s0+(zg a0 s0).2))))
      (cond (decide (((zg a0 s0).1:Int)=95))
       (I (.inl (I (s0+(zg a0 s0).2))))
       (I (.inr (.inl (s0+(zg a0 s0).2)))))))))
  (I (.inr (.inr s0)))
def Hl (a0:List UInt8):Option (Nat)→Option (Option (Nat)⊕(Nat⊕Nat))
 |none=>xT a0
 |some x=>xU a0 x
def Ir (a0:List UInt8)(s0:Nat):qg:=⟨[(0,.str a0,Ef),(8,.ptr 0 0,Ef),(46,.bool Ef,Ef)],[.iter a0 s0]⟩
def wo (a0:List UInt8):Option (Nat)→qg
 |none=>⟨[(0,.str a0,Ef),(8,.ptr 0 0,Ef)],[.iter a0 0]⟩
 |some x=>Ir a0 x
def wu (a0:List UInt8):Nat⊕Nat→qo×qg
 | .inl d=>(.ret,⟨[(2,.bool Ef,Ef)],[.iter a0 d]⟩)
 | .inr d=>(.exit 0,⟨[(0,.str a0,Ef),(8,.ptr 0 0,Ef),(9,.aB [.bool Ef],Ef),(10,.bool Ef,Ef)],[.iter a0 d]⟩)
theorem jtt (a0:List UInt8)(r)(h:xT a0=I r):yp pr wv (wo a0) (wu a0) E0 r:=by
 unfold xT at h
 repeat' first|(replace h:=jz h;rcases h with⟨g,h⟩|⟨g,h⟩)|fail
 all_goals (cases h<;>(first|(refine zw ?_;simp only[go_sem,seval,wv,wo,Ir,xr,wu, *]<;>rfl)|(refine yj ?_;simp only[go_sem,seval,wv,wo,Ir,xr,wu, *]<;>rfl)))
theorem jph (a0:List UInt8)(s0:Nat)(r)(h:xU a0 s0=I r):yp pr wv (wo a0) (wu a0) (I s0) r:=by
 unfold xU at h
 repeat' first|(replace h:=jz h;rcases h with⟨g,h⟩|⟨g,h⟩)|fail
 all_goals (cases h<;>(first|(refine zw ?_;simp only[go_sem,seval,wv,wo,Ir,xr,wu, *]<;>rfl)|(refine yj ?_;simp only[go_sem,seval,wv,wo,Ir,xr,wu, *]<;>rfl)))
theorem jz6 (a0:List UInt8):∀(x:Option (Nat)) (r) (h:Hl a0 x=I r),yp pr wv (wo a0) (wu a0) x r
 |none,r,h=>jtt a0 r h
 |some x,r,h=>jph a0 x r h
theorem jy2 (a0:List UInt8){s0:Option (Nat)}{d}(h:bf (Hl a0) s0=I d):X pr (.loop wv) (wo a0 s0)=I (wu a0 d):=y7 (jz6 a0) (fun d=>by rcases d with d|d<;>(intro hh;cases hh)) h
def f56 (a0:List UInt8):Option Bool:=
 jw (bf (Hl a0) E0) fun d192=>match d192 with
  | .inl d194=>
   I Ef
  | .inr d195=>
   cond (decide (a0=[]))
    (I Ef)
    (I (decide ((a0.length:Int)≤24)))
theorem W56 {a0:List UInt8}{r}(h:f56 a0=I r):jy pr (X pr) 56 [.str a0]=I (.bool r,Ef):=by
 unfold f56 at h
 refine y6 Iu ?_
 repeat' first|(replace h:=jx h;obtain⟨d,g,h⟩:=h;with_reducible first|(replace g:=jy2 a0 g;rcases d with d|d<;>dsimp only[wo,wu,y9]at g h)|skip)|(replace h:=jz h;rcases h with⟨g,h⟩|⟨g,h⟩)|fail
 all_goals (cases h<;>(simp only[go_sem,seval,Iu, *];exact⟨_,rfl⟩))
end Go.Z
namespace Go.Z
open Go Go.Abs Go.W
def Ed (a0:List UInt8):Option Int:=
 jw (f56 a0) fun v1=>
 jw (f53 (!v1) 8) fun v3=>
 I v3
theorem zhh (hp:j8){a0:List UInt8}{r}(h:Ed a0=I r):zf pr (X pr) 55 [.str a0] hp=I (Iv r,Ef,hp):=by
 unfold Ed at h
 obtain⟨v1,h2,h⟩:=jx h
 have rM:jy pr (X pr) 56 [.str a0]=I (.bool v1,Ef):=W56 h2
 obtain⟨v3,h4,h⟩:=jx h
 have Bg:jy pr (X pr) 53 [.bool (!v1),Iv 8]=I (Iv v3,Ef):=ei h4
 have hr:v3=r:=I.inj h
 subst hr
 rw[zd (show pr.bj 55=I Iw from rfl) (by simp)]
 simp only[go_sem,seval,Iw,rM,Bg]<;>rfl
def Ee (a0:Int):Option Int:=
 jw (f52 a0 0 999999999) fun v1=>
 I v1
theorem zf7 (hp:j8){a0:Int}{r}(h:Ee a0=I r):zf pr (X pr) 58 [Iv a0] hp=I (Iv r,Ef,hp):=by
 unfold Ee at h
 obtain⟨v1,h2,h⟩:=jx h
 have rM:jy pr (X pr) 52 [Iv a0,Iv 0,Iv 999999999]=I (Iv v1,Ef):=NV h2
 have hr:v1=r:=I.inj h
 subst hr
 rw[zd (show pr.bj 58=I Ix from rfl) (by simp)]
 simp only[go_sem,seval,Ix,rM]<;>rfl
def Hm (a0:Option (List (List UInt8)))(s0:(Option (List Int))×Int×Bool):Option (((Option (List Int))×Int×Bool)⊕(((Option (List Int))×Bool×Int))):=
 cond (decide (s0.2.1<((a0.getD []).length:Int)))
  (jw (zo (a0.getD []) s0.2.1) fun fP=>
  jw (Ed fP) fun v20=>
  cond s0.2.2
   (jw (bh s0.1 [v20]) fun iY=>
   I (.inl (iY,j6 .i64 (s0.2.1+1),En)))
   (cond s0.1.isNone
    (jw (bh s0.1 [v20]) fun fC=>
    I (.inl (fC,j6 .i64 (s0.2.1+1),En)))
    (E0)))
  (I (.inr (s0.1,s0.2.2,s0.2.1)))
def Iy (a0:Option (List (List UInt8)))(s0:(Option (List Int))×Int×Bool):qg:=⟨[(1,.fn (.func 55) [] [],Ef),(5,sl 1 kr s0.1,s0.2.2),(8,sl 1 qae a0,Ef),(9,Lv a0,Ef),(10,Iv s0.2.1,Ef)],[]⟩
def Iz (a0:Option (List (List UInt8)))(d:((Option (List Int))×Bool×Int)):qo×qg:=(.exit 0,⟨[(1,.fn (.func 55) [] [],Ef),(5,sl 1 kr d.1,d.2.1),(8,sl 1 qae a0,Ef),(9,Lv a0,Ef),(10,Iv d.2.2,Ef),(11,.bool Ef,Ef)],[]⟩)
theorem j1b (a0:Option (List (List UInt8)))(s0:(Option (List Int))×Int×Bool)(r)(h:Hm a0 s0=I r):yp pr IA (Iy a0) (Iz a0) s0 r:=by
 unfold Hm at h
 repeat' first|(replace h:=jx h;obtain⟨d,g,h⟩:=h;with_reducible first|replace g:=zhh [] g|replace g:=q6t g|skip)|(replace h:=jz h;rcases h with⟨g,h⟩|⟨g,h⟩)|fail
 all_goals (cases h<;>(first|(refine zw ?_;simp only[go_sem,seval,IA,Iy,zn,Iz, *]<;>rfl)|(refine yj ?_;simp only[go_sem,seval,IA,Iy,zn,Iz, *]<;>rfl)))
theorem jyg (a0:Option (List (List UInt8))){s0:(Option (List Int))×Int×Bool}{d}(h:bf (Hm a0) s0=I d):X pr (.loop IA) (Iy a0 s0)=I (Iz a0 d):=y7 (j1b a0) (fun d hh=>by cases hh) h
def f54 (a0:Option (List (List UInt8))):Option ((Option (List Int))×Bool):=
 jw (bf (Hm a0) (E0,0,Ef)) fun d28=>
 I (d28.1,d28.2.1)
theorem W54 {a0:Option (List (List UInt8))}{r}(h:f54 a0=I r):jy pr (X pr) 54 [sl 1 qae a0,.fn (.func 55) [] []]=I (sl 1 kr r.1,r.2):=by
 unfold f54 at h
 refine fk IB ?_
 repeat' first|(replace h:=jx h;obtain⟨d,g,h⟩:=h;with_reducible first|(replace g:=jyg a0 g;dsimp only[Iy,Iz,y9]at g h)|skip)|(replace h:=jz h;rcases h with⟨g,h⟩|⟨g,h⟩)|fail
 all_goals (cases h<;>(simp only[go_sem,seval,IB, *];exact⟨_,rfl⟩))
def Hn (a0:Option (List Int))(s0:(Option (List Int))×Int×Bool):Option (((Option (List Int))×Int×Bool)⊕(((Option (List Int))×Bool×Int))):=
 cond (decide (s0.2.1<((a0.getD []).length:Int)))
  (jw (zo (a0.getD []) s0.2.1) fun fP=>
  jw (Ee fP) fun v20=>
  cond s0.2.2
   (jw (bh s0.1 [v20]) fun iY=>
   I (.inl (iY,j6 .i64 (s0.2.1+1),En)))
   (cond s0.1.isNone
    (jw (bh s0.1 [v20]) fun fC=>
    I (.inl (fC,j6 .i64 (s0.2.1+1),En)))
    (E0)))
  (I (.inr (s0.1,s0.2.2,s0.2.1)))
def IC (a0:Option (List Int))(s0:(Option (List Int))×Int×Bool):qg:=⟨[(1,.fn (.func 58) [] [],Ef),(5,sl 1 kr s0.1,s0.2.2),(8,sl 1 kr a0,Ef),(9,Lv a0,Ef),(10,Iv s0.2.1,Ef)],[]⟩
def IE (a0:Option (List Int))(d:((Option (List Int))×Bool×Int)):qo×qg:=(.exit 0,⟨[(1,.fn (.func 58) [] [],Ef),(5,sl 1 kr d.1,d.2.1),(8,sl 1 kr a0,Ef),(9,Lv a0,Ef),(10,Iv d.2.2,Ef),(11,.bool Ef,Ef)],[]⟩)
theorem j30 (a0:Option (List Int))(s0:(Option (List Int))×Int×Bool)(r)(h:Hn a0 s0=I r):yp pr IF (IC a0) (IE a0) s0 r:=by
 unfold Hn at h
 repeat' first|(replace h:=jx h;obtain⟨d,g,h⟩:=h;with_reducible first|replace g:=zf7 [] g|replace g:=q6t g|skip)|(replace h:=jz h;rcases h with⟨g,h⟩|⟨g,h⟩)|fail
 all_goals (cases h<;>(first|(refine zw ?_;simp only[go_sem,seval,IF,IC,zn,IE, *]<;>rfl)|(refine yj ?_;simp only[go_sem,seval,IF,IC,zn,IE, *]<;>rfl)))
theorem jxs (a0:Option (List Int)){s0:(Option (List Int))×Int×Bool}{d}(h:bf (Hn a0) s0=I d):X pr (.loop IF) (IC a0 s0)=I (IE a0 d):=y7 (j30 a0) (fun d hh=>by cases hh) h
def f57 (a0:Option (List Int)):Option ((Option (List Int))×Bool):=
 jw (bf (Hn a0) (E0,0,Ef)) fun d28=>
 I (d28.1,d28.2.1)
theorem W57 {a0:Option (List Int)}{r}(h:f57 a0=I r):jy pr (X pr) 57 [sl 1 kr a0,.fn (.func 58) [] []]=I (sl 1 kr r.1,r.2):=by
 unfold f57 at h
 refine fk IG ?_
 repeat' first|(replace h:=jx h;obtain⟨d,g,h⟩:=h;with_reducible first|(replace g:=jxs a0 g;dsimp only[IC,IE,y9]at g h)|skip)|(replace h:=jz h;rcases h with⟨g,h⟩|⟨g,h⟩)|fail
 all_goals (cases h<;>(simp only[go_sem,seval,IG, *];exact⟨_,rfl⟩))
def f122 (a0:Option (List (List UInt8))):Option ((Option (List (List UInt8)))×Bool):=
 cond a0.isNone
  (I (E0,Ef))
  (jw (bh (I []) (a0.getD [])) fun v2=>
  I (v2,En))
theorem j91 {a0:Option (List (List UInt8))}{r}(h:f122 a0=I r):jy pr (X pr) 122 [sl 1 qae a0]=I (sl 1 qae r.1,r.2):=by
 unfold f122 at h
 refine fk sw ?_
 repeat' first|(replace h:=jx h;obtain⟨d,g,h⟩:=h)|(replace h:=jz h;rcases h with⟨g,h⟩|⟨g,h⟩)|fail
 all_goals (cases h<;>(simp only[go_sem,seval,sw,lG, *];exact⟨_,rfl⟩))
def f123 (a0:Option (List Int)):Option ((Option (List Int))×Bool):=
 cond a0.isNone
  (I (E0,Ef))
  (jw (bh (I []) (a0.getD [])) fun v2=>
  I (v2,En))
theorem zg1 {a0:Option (List Int)}{r}(h:f123 a0=I r):jy pr (X pr) 123 [sl 1 kr a0]=I (sl 1 kr r.1,r.2):=by
 unfold f123 at h
 refine fk sx ?_
 repeat' first|(replace h:=jx h;obtain⟨d,g,h⟩:=h)|(replace h:=jz h;rcases h with⟨g,h⟩|⟨g,h⟩)|fail
 all_goals (cases h<;>(simp only[go_sem,seval,sx,lG, *];exact⟨_,rfl⟩))
def f66 (a0:ql):Option ql:=
 jw (f122 a0.names) fun v1=>
 jw (f123 a0.values) fun v3=>
 cond v1.2
  (cond v3.2
   (I (⟨a0.number,a0.kind,v1.1,v3.1,a0.text⟩))
   (I (⟨a0.number,a0.kind,v1.1,v3.1,a0.text⟩)))
  (cond v3.2
   (I (⟨a0.number,a0.kind,v1.1,v3.1,a0.text⟩))
   (I (⟨a0.number,a0.kind,v1.1,v3.1,a0.text⟩)))
theorem Wt {a0:ql}{r}(h:f66 a0=I r):jy pr (X pr) 66 [aE a0]=I (aE r,Ef):=by
 unfold f66 at h
 refine y6 IH ?_
 repeat' first|(replace h:=jx h;obtain⟨d,g,h⟩:=h;with_reducible first|replace g:=j91 g|replace g:=zg1 g|skip)|(replace h:=jz h;rcases h with⟨g,h⟩|⟨g,h⟩)|fail
 all_goals (cases h<;>(simp only[go_sem,seval,IH, *];exact⟨_,rfl⟩))
end Go.Z
end
