/- Chapter 10. -/
import Derived.Test.YtfopaakmgogpiaaGreatDoorCA
set_option linter.unusedVariables false
set_option linter.unusedSimpArgs false
set_option maxRecDepth 100000
set_option maxHeartbeats 4000000
noncomputable section
open Option renaming some→I,none→En
open Bool renaming false→Eh,true→El
namespace Go.Z
open Go Go.Abs Go.W
def f53 (a0:Bool)(a1:Int):Option Int:=
 cond a0
  (I a1)
  (I 0)
theorem fB {a0:Bool}{a1:Int}{r}(h:f53 a0 a1=I r):jz pr (X pr) 53 [.bool a0,Iv a1]=I (Iv r,Eh):=by
 unfold f53 at h
 refine yt Ix ?_
 repeat' first|(replace h:=j6 h;rcases h with⟨g,h⟩|⟨g,h⟩)|fail
 all_goals (cases h<;>(simp only[go_sem,seval,Ix, *];exact⟨_,rfl⟩))
def vV (a0:Option (List Int))(s0:Int):Option (Int⊕(Int⊕Int)):=
 cond (decide (s0<((a0.getD []).length:Int)))
  (jx (zq (a0.getD []) s0) fun v10=>
  cond (decide (v10=0))
   (I (.inl (j9 .i64 (s0+1))))
   (I (.inr (.inl v10))))
  (I (.inr (.inr s0)))
def Iy (a0:Option (List Int))(s0:Int):qh:=⟨[(5,sl 1 kn a0,Eh),(6,Lv a0,Eh),(7,Iv s0,Eh)],[]⟩
def Iz (a0:Option (List Int)):Int⊕Int→qo×qh
 | .inl d=>(.ret,⟨[(2,Iv d,Eh)],[]⟩)
 | .inr d=>(.exit 0,⟨[(5,sl 1 kn a0,Eh),(6,Lv a0,Eh),(7,Iv d,Eh),(8,.bool Eh,Eh)],[]⟩)
theorem jzi (a0:Option (List Int))(s0:Int)(r)(h:vV a0 s0=I r):y5 pr IA (Iy a0) (Iz a0) s0 r:=by
 unfold vV at h
 repeat' first|(replace h:=jy h;obtain⟨d,g,h⟩:=h)|(replace h:=j6 h;rcases h with⟨g,h⟩|⟨g,h⟩)|fail
 all_goals (cases h<;>(first|(refine z6 ?_;simp only[go_sem,seval,IA,Iy,zn,Iz, *]<;>rfl)|(refine yo ?_;simp only[go_sem,seval,IA,Iy,zn,Iz, *]<;>rfl)))
theorem j4n (a0:Option (List Int)){s0:Int}{d}(h:bj (vV a0) s0=I d):X pr (.loop IA) (Iy a0 s0)=I (Iz a0 d):=kl (jzi a0) (fun d=>by rcases d with d|d<;>(intro hh;cases hh)) h
def f51 (a0:Option (List Int)):Option Int:=
 jx (bj (vV a0) 0) fun d13=>match d13 with
  | .inl d15=>
   I d15
  | .inr d16=>
   I 0
theorem lK {a0:Option (List Int)}{r}(h:f51 a0=I r):jz pr (X pr) 51 [sl 1 kn a0]=I (Iv r,Eh):=by
 unfold f51 at h
 refine yt IB ?_
 repeat' first|(replace h:=jy h;obtain⟨d,g,h⟩:=h;with_reducible first|(replace g:=j4n a0 g;rcases d with d|d<;>dsimp only[Iy,Iz,ki]at g h)|skip)|(replace h:=j6 h;rcases h with⟨g,h⟩|⟨g,h⟩)|fail
 all_goals (cases h<;>(simp only[go_sem,seval,IB, *];exact⟨_,rfl⟩))
def f52 (a0:Int)(a1:Int)(a2:Int):Option Int:=
 cond (decide (a0<a1))
  (jx (f53 El 3) fun v2=>
  I v2)
  (jx (f53 (decide (a2<a0)) 3) fun v4=>
  I v4)
theorem N9 {a0:Int}{a1:Int}{a2:Int}{r}(h:f52 a0 a1 a2=I r):jz pr (X pr) 52 [Iv a0,Iv a1,Iv a2]=I (Iv r,Eh):=by
 unfold f52 at h
 refine yt IC ?_
 repeat' first|(replace h:=jy h;obtain⟨d,g,h⟩:=h;with_reducible first|replace g:=fB g|skip)|(replace h:=j6 h;rcases h with⟨g,h⟩|⟨g,h⟩)|fail
 all_goals (cases h<;>(simp only[go_sem,seval,IC, *];exact⟨_,rfl⟩))
def f25 (a0:Bool)(a1:Int):Option Int:=
 cond a0
  (I a1)
  (I 0)
theorem W25 {a0:Bool}{a1:Int}{r}(h:f25 a0 a1=I r):jz pr (X pr) 25 [.bool a0,Iv a1]=I (Iv r,Eh):=by
 unfold f25 at h
 refine yt IE ?_
 repeat' first|(replace h:=j6 h;rcases h with⟨g,h⟩|⟨g,h⟩)|fail
 all_goals (cases h<;>(simp only[go_sem,seval,IE, *];exact⟨_,rfl⟩))
def x5 (a0:List UInt8)(s0:Int):Option (Int⊕(Unit⊕Int)):=
 cond (decide (s0<(a0.length:Int)))
  (jx (zq a0 s0) fun v70=>
  cond (decide (65≤(v70.toNat:Int)))
   (cond (decide ((v70.toNat:Int)≤90))
    (cond (decide (48≤(v70.toNat:Int)))
     (cond (decide ((v70.toNat:Int)≤57))
      (I (.inl (j9 .i64 (s0+1))))
      (I (.inl (j9 .i64 (s0+1)))))
     (I (.inl (j9 .i64 (s0+1)))))
    (cond (decide (97≤(v70.toNat:Int)))
     (cond (decide (48≤(v70.toNat:Int)))
      (cond (decide ((v70.toNat:Int)≤57))
       (cond (decide ((v70.toNat:Int)≤122))
        (I (.inl (j9 .i64 (s0+1))))
        (cond (decide (s0=0))
         (I (.inr (.inl ())))
         (I (.inl (j9 .i64 (s0+1))))))
       (cond (decide ((v70.toNat:Int)≤122))
        (I (.inl (j9 .i64 (s0+1))))
        (cond (decide (s0=0))
         (I (.inr (.inl ())))
         (cond (decide ((v70.toNat:Int)=95))
          (I (.inl (j9 .i64 (s0+1))))
          (I (.inr (.inl ())))))))
      (cond (decide ((v70.toNat:Int)≤122))
       (I (.inl (j9 .i64 (s0+1))))
       (cond (decide (s0=0))
        (I (.inr (.inl ())))
        (cond (decide ((v70.toNat:Int)=95))
         (I (.inl (j9 .i64 (s0+1))))
         (I (.inr (.inl ())))))))
     (cond (decide (48≤(v70.toNat:Int)))
      (cond (decide ((v70.toNat:Int)≤57))
       (cond (decide (s0=0))
        (I (.inr (.inl ())))
        (I (.inl (j9 .i64 (s0+1)))))
       (cond (decide (s0=0))
        (I (.inr (.inl ())))
        (cond (decide ((v70.toNat:Int)=95))
         (I (.inl (j9 .i64 (s0+1))))
         (I (.inr (.inl ()))))))
      (cond (decide (s0=0))
       (I (.inr (.inl ())))
       (cond (decide ((v70.toNat:Int)=95))
        (I (.inl (j9 .i64 (s0+1))))
        (I (.inr (.inl ()))))))))
   (cond (decide (97≤(v70.toNat:Int)))
    (cond (decide (48≤(v70.toNat:Int)))
     (cond (decide ((v70.toNat:Int)≤57))
      (cond (decide ((v70.toNat:Int)≤122))
       (I (.inl (j9 .i64 (s0+1))))
       (cond (decide (s0=0))
        (I (.inr (.inl ())))
        (I (.inl (j9 .i64 (s0+1))))))
      (cond (decide ((v70.toNat:Int)≤122))
       (I (.inl (j9 .i64 (s0+1))))
       (cond (decide (s0=0))
        (I (.inr (.inl ())))
        (cond (decide ((v70.toNat:Int)=95))
         (I (.inl (j9 .i64 (s0+1))))
         (I (.inr (.inl ())))))))
     (cond (decide ((v70.toNat:Int)≤122))
      (I (.inl (j9 .i64 (s0+1))))
      (cond (decide (s0=0))
       (I (.inr (.inl ())))
       (cond (decide ((v70.toNat:Int)=95))
        (I (.inl (j9 .i64 (s0+1))))
        (I (.inr (.inl ())))))))
    (cond (decide (48≤(v70.toNat:Int)))
     (cond (decide ((v70.toNat:Int)≤57))
      (cond (decide (s0=0))
       (I (.inr (.inl ())))
       (I (.inl (j9 .i64 (s0+1)))))
      (cond (decide (s0=0))
       (I (.inr (.inl ())))
       (cond (decide ((v70.toNat:Int)=95))
        (I (.inl (j9 .i64 (s0+1))))
        (I (.inr (.inl ()))))))
     (cond (decide (s0=0))
      (I (.inr (.inl ())))
      (cond (decide ((v70.toNat:Int)=95))
       (I (.inl (j9 .i64 (s0+1))))
       (I (.inr (.inl ()))))))))
  (I (.inr (.inr s0)))
def IF (a0:List UInt8)(s0:Int):qh:=⟨[(0,.str a0,Eh),(3,Iv s0,Eh)],[]⟩
def IG (a0:List UInt8):Unit⊕Int→qo×qh
 | .inl d=>(.ret,⟨[(2,.bool Eh,Eh)],[]⟩)
 | .inr d=>(.exit 0,⟨[(0,.str a0,Eh),(3,Iv d,Eh),(17,.bool Eh,Eh)],[]⟩)
theorem jv5 (a0:List UInt8)(s0:Int)(r)(h:x5 a0 s0=I r):y5 pr IH (IF a0) (IG a0) s0 r:=by
 unfold x5 at h
 repeat' first|(replace h:=jy h;obtain⟨d,g,h⟩:=h)|(replace h:=j6 h;rcases h with⟨g,h⟩|⟨g,h⟩)|fail
 all_goals (cases h<;>(first|(refine z6 ?_;simp only[go_sem,seval,IH,IF,q3b,IG, *]<;>rfl)|(refine yo ?_;simp only[go_sem,seval,IH,IF,q3b,IG, *]<;>rfl)))
theorem j5j (a0:List UInt8){s0:Int}{d}(h:bj (x5 a0) s0=I d):X pr (.loop IH) (IF a0 s0)=I (IG a0 d):=kl (jv5 a0) (fun d=>by rcases d with d|d<;>(intro hh;cases hh)) h
def f26 (a0:List UInt8):Option Bool:=
 cond (decide ((a0.length:Int)=0))
  (I Eh)
  (cond (decide (24<(a0.length:Int)))
   (I Eh)
   (jx (bj (x5 a0) 0) fun d112=>match d112 with
    | .inl d114=>
     I Eh
    | .inr d115=>
     I El))
theorem W26 {a0:List UInt8}{r}(h:f26 a0=I r):jz pr (X pr) 26 [.str a0]=I (.bool r,Eh):=by
 unfold f26 at h
 refine yt Oa ?_
 repeat' first|(replace h:=jy h;obtain⟨d,g,h⟩:=h;with_reducible first|(replace g:=j5j a0 g;rcases d with d|d<;>dsimp only[IF,IG,ki]at g h)|skip)|(replace h:=j6 h;rcases h with⟨g,h⟩|⟨g,h⟩)|fail
 all_goals (cases h<;>(simp only[go_sem,seval,Oa, *];exact⟨_,rfl⟩))
def x6 (a0:List UInt8):Option (Option (Nat)⊕(Nat⊕Nat)):=
 cond (decide (0<a0.length))
  (cond (decide (65≤((zf a0 0).1:Int)))
   (cond (decide (((zf a0 0).1:Int)≤90))
    (cond (decide (48≤((zf a0 0).1:Int)))
     (cond (decide (((zf a0 0).1:Int)≤57))
      (I (.inl (I (0+(zf a0 0).2))))
      (I (.inl (I (0+(zf a0 0).2)))))
     (I (.inl (I (0+(zf a0 0).2)))))
    (cond (decide (97≤((zf a0 0).1:Int)))
     (cond (decide (48≤((zf a0 0).1:Int)))
      (cond (decide (((zf a0 0).1:Int)≤57))
       (cond (decide (((zf a0 0).1:Int)≤122))
        (I (.inl (I (0+(zf a0 0).2))))
        (I (.inr (.inl (0+(zf a0 0).2)))))
       (cond (decide (((zf a0 0).1:Int)≤122))
        (I (.inl (I (0+(zf a0 0).2))))
        (I (.inr (.inl (0+(zf a0 0).2))))))
      (cond (decide (((zf a0 0).1:Int)≤122))
       (I (.inl (I (0+(zf a0 0).2))))
       (I (.inr (.inl (0+(zf a0 0).2))))))
     (cond (decide (48≤((zf a0 0).1:Int)))
      (cond (decide (((zf a0 0).1:Int)≤57))
       (I (.inr (.inl (0+(zf a0 0).2))))
       (I (.inr (.inl (0+(zf a0 0).2)))))
      (I (.inr (.inl (0+(zf a0 0).2)))))))
   (cond (decide (97≤((zf a0 0).1:Int)))
    (cond (decide (48≤((zf a0 0).1:Int)))
     (cond (decide (((zf a0 0).1:Int)≤57))
      (cond (decide (((zf a0 0).1:Int)≤122))
       (I (.inl (I (0+(zf a0 0).2))))
       (I (.inr (.inl (0+(zf a0 0).2)))))
      (cond (decide (((zf a0 0).1:Int)≤122))
       (I (.inl (I (0+(zf a0 0).2))))
       (I (.inr (.inl (0+(zf a0 0).2))))))
     (cond (decide (((zf a0 0).1:Int)≤122))
      (I (.inl (I (0+(zf a0 0).2))))
      (I (.inr (.inl (0+(zf a0 0).2))))))
    (cond (decide (48≤((zf a0 0).1:Int)))
     (cond (decide (((zf a0 0).1:Int)≤57))
      (I (.inr (.inl (0+(zf a0 0).2))))
      (I (.inr (.inl (0+(zf a0 0).2)))))
     (I (.inr (.inl (0+(zf a0 0).2)))))))
  (I (.inr (.inr 0)))
def x9 (a0:List UInt8)(s0:Nat):Option (Option (Nat)⊕(Nat⊕Nat)):=
 cond (decide (s0<a0.length))
  (cond (decide (65≤((zf a0 s0).1:Int)))
   (cond (decide (((zf a0 s0).1:Int)≤90))
    (cond (decide (48≤((zf a0 s0).1:Int)))
     (cond (decide (((zf a0 s0).1:Int)≤57))
      (I (.inl (I (s0+(zf a0 s0).2))))
      (I (.inl (I (s0+(zf a0 s0).2)))))
     (I (.inl (I (s0+(zf a0 s0).2)))))
    (cond (decide (97≤((zf a0 s0).1:Int)))
     (cond (decide (48≤((zf a0 s0).1:Int)))
      (cond (decide (((zf a0 s0).1:Int)≤57))
       (cond (decide (((zf a0 s0).1:Int)≤122))
        (I (.inl (I (s0+(zf a0 s0).2))))
        (cond (decide ((s0:Int)=0))
         (I (.inr (.inl (s0+(zf a0 s0).2))))
         (I (.inl (I (s0+(zf a0 s0).2))))))
       (cond (decide (((zf a0 s0).1:Int)≤122))
        (I (.inl (I (s0+(zf a0 s0).2))))
        (cond (decide ((s0:Int)=0))
         (I (.inr (.inl (s0+(zf a0 s0).2))))
         (cond (decide (((zf a0 s0).1:Int)=95))
          (I (.inl (I (s0+(zf a0 s0).2))))
          (I (.inr (.inl (s0+(zf a0 s0).2))))))))
      (cond (decide (((zf a0 s0).1:Int)≤122))
       (I (.inl (I (s0+(zf a0 s0).2))))
       (cond (decide ((s0:Int)=0))
        (I (.inr (.inl (s0+(zf a0 s0).2))))
        (cond (decide (((zf a0 s0).1:Int)=95))
         (I (.inl (I (s0+(zf a0 s0).2))))
         (I (.inr (.inl (s0+(zf a0 s0).2))))))))
     (cond (decide (48≤((zf a0 s0).1:Int)))
      (cond (decide (((zf a0 s0).1:Int)≤57))
       (cond (decide ((s0:Int)=0))
        (I (.inr (.inl (s0+(zf a0 s0).2))))
        (I (.inl (I (s0+(zf a0 s0).2)))))
       (cond (decide ((s0:Int)=0))
        (I (.inr (.inl (s0+(zf a0 s0).2))))
        (cond (decide (((zf a0 s0).1:Int)=95))
         (I (.inl (I (s0+(zf a0 s0).2))))
         (I (.inr (.inl (s0+(zf a0 s0).2)))))))
      (cond (decide ((s0:Int)=0))
       (I (.inr (.inl (s0+(zf a0 s0).2))))
       (cond (decide (((zf a0 s0).1:Int)=95))
        (I (.inl (I (s0+(zf a0 s0).2))))
        (I (.inr (.inl (s0+(zf a0 s0).2)))))))))
   (cond (decide (97≤((zf a0 s0).1:Int)))
    (cond (decide (48≤((zf a0 s0).1:Int)))
     (cond (decide (((zf a0 s0).1:Int)≤57))
      (cond (decide (((zf a0 s0).1:Int)≤122))
       (I (.inl (I (s0+(zf a0 s0).2))))
       (cond (decide ((s0:Int)=0))
        (I (.inr (.inl (s0+(zf a0 s0).2))))
        (I (.inl (I (s0+(zf a0 s0).2))))))
      (cond (decide (((zf a0 s0).1:Int)≤122))
       (I (.inl (I (s0+(zf a0 s0).2))))
       (cond (decide ((s0:Int)=0))
        (I (.inr (.inl (s0+(zf a0 s0).2))))
        (cond (decide (((zf a0 s0).1:Int)=95))
         (I (.inl (I (s0+(zf a0 s0).2))))
         (I (.inr (.inl (s0+(zf a0 s0).2))))))))
     (cond (decide (((zf a0 s0).1:Int)≤122))
      (I (.inl (I (s0+(zf a0 s0).2))))
      (cond (decide ((s0:Int)=0))
       (I (.inr (.inl (s0+(zf a0 s0).2))))
       (cond (decide (((zf a0 s0).1:Int)=95))
        (I (.inl (I (s0+(zf a0 s0).2))))
        (I (.inr (.inl (s0+(zf a0 s0).2))))))))
    (cond (decide (48≤((zf a0 s0).1:Int)))
     (cond (decide (((zf a0 s0).1:Int)≤57))
      (cond (decide ((s0:Int)=0))
       (I (.inr (.inl (s0+(zf a0 s0).2))))
       (I (.inl (I (s0+(zf a0 s0).2)))))
      (cond (decide ((s0:Int)=0))
       (I (.inr (.inl (s0+(zf a0 s0).2))))
       (cond (decide (((zf a0 s0).1:Int)=95))
        (I (.inl (I (s0+(zf a0 s0).2))))
        (I (.inr (.inl (s0+(zf a0 s0).2)))))))
     (cond (decide ((s0:Int)=0))
      (I (.inr (.inl (s0+(zf a0 s0).2))))
      (cond (decide (((zf a0 s0).1:Int)=95))
       (I (.inl (I (s0+(zf a0 s0).2))))
       (I (.inr (.inl (s0+(zf a0 s0).2)))))))))
  (I (.inr (.inr s0)))
def Hx (a0:List UInt8):Option (Nat)→Option (Option (Nat)⊕(Nat⊕Nat))
 |none=>x6 a0
 |some x=>x9 a0 x
def II (a0:List UInt8)(s0:Nat):qh:=⟨[(0,.str a0,Eh),(8,.ptr 0 0,Eh),(46,.bool Eh,Eh)],[.iter a0 s0]⟩
def wD (a0:List UInt8):Option (Nat)→qh
 |none=>⟨[(0,.str a0,Eh),(8,.ptr 0 0,Eh)],[.iter a0 0]⟩
 |some x=>II a0 x
def wE (a0:List UInt8):Nat⊕Nat→qo×qh
 | .inl d=>(.ret,⟨[(2,.bool Eh,Eh)],[.iter a0 d]⟩)
 | .inr d=>(.exit 0,⟨[(0,.str a0,Eh),(8,.ptr 0 0,Eh),(9,.az [.bool Eh],Eh),(10,.bool Eh,Eh)],[.iter a0 d]⟩)
theorem jpd (a0:List UInt8)(r)(h:x6 a0=I r):y5 pr wF (wD a0) (wE a0) En r:=by
 unfold x6 at h
 repeat' first|(replace h:=j6 h;rcases h with⟨g,h⟩|⟨g,h⟩)|fail
 all_goals (cases h<;>(first|(refine z6 ?_;simp only[go_sem,seval,wF,wD,II,xH,wE, *]<;>rfl)|(refine yo ?_;simp only[go_sem,seval,wF,wD,II,xH,wE, *]<;>rfl)))
theorem jo3 (a0:List UInt8)(s0:Nat)(r)(h:x9 a0 s0=I r):y5 pr wF (wD a0) (wE a0) (I s0) r:=by
 unfold x9 at h
 repeat' first|(replace h:=j6 h;rcases h with⟨g,h⟩|⟨g,h⟩)|fail
 all_goals (cases h<;>(first|(refine z6 ?_;simp only[go_sem,seval,wF,wD,II,xH,wE, *]<;>rfl)|(refine yo ?_;simp only[go_sem,seval,wF,wD,II,xH,wE, *]<;>rfl)))
theorem jyh (a0:List UInt8):∀(x:Option (Nat)) (r) (h:Hx a0 x=I r),y5 pr wF (wD a0) (wE a0) x r
 |none,r,h=>jpd a0 r h
 |some x,r,h=>jo3 a0 x r h
theorem j08 (a0:List UInt8){s0:Option (Nat)}{d}(h:bj (Hx a0) s0=I d):X pr (.loop wF) (wD a0 s0)=I (wE a0 d):=kl (jyh a0) (fun d=>by rcases d with d|d<;>(intro hh;cases hh)) h
def f56 (a0:List UInt8):Option Bool:=
 jx (bj (Hx a0) En) fun d192=>match d192 with
  | .inl d194=>
   I Eh
  | .inr d195=>
   cond (decide (a0=[]))
    (I Eh)
    (I (decide ((a0.length:Int)≤24)))
theorem W56 {a0:List UInt8}{r}(h:f56 a0=I r):jz pr (X pr) 56 [.str a0]=I (.bool r,Eh):=by
 unfold f56 at h
 refine yt IJ ?_
 repeat' first|(replace h:=jy h;obtain⟨d,g,h⟩:=h;with_reducible first|(replace g:=j08 a0 g;rcases d with d|d<;>dsimp only[wD,wE,ki]at g h)|skip)|(replace h:=j6 h;rcases h with⟨g,h⟩|⟨g,h⟩)|fail
 all_goals (cases h<;>(simp only[go_sem,seval,IJ, *];exact⟨_,rfl⟩))
end Go.Z
namespace Go.Z
open Go Go.Abs Go.W
def Ej (a0:List UInt8):Option Int:=
 jx (f56 a0) fun v1=>
 jx (f53 (!v1) 8) fun v3=>
 I v3
theorem zcl (hp:j8){a0:List UInt8}{r}(h:Ej a0=I r):zg pr (X pr) 55 [.str a0] hp=I (Iv r,Eh,hp):=by
 unfold Ej at h
 obtain⟨v1,h2,h⟩:=jy h
 have rS:jz pr (X pr) 56 [.str a0]=I (.bool v1,Eh):=W56 h2
 obtain⟨v3,h4,h⟩:=jy h
 have Bk:jz pr (X pr) 53 [.bool (!v1),Iv 8]=I (Iv v3,Eh):=fB h4
 have hr:v3=r:=I.inj h
 subst hr
 rw[zh (show pr.bH 55=I IK from rfl) (by simp)]
 simp only[go_sem,seval,IK,rS,Bk]<;>rfl
def Ek (a0:Int):Option Int:=
 jx (f52 a0 0 999999999) fun v1=>
 I v1
theorem zg6 (hp:j8){a0:Int}{r}(h:Ek a0=I r):zg pr (X pr) 58 [Iv a0] hp=I (Iv r,Eh,hp):=by
 unfold Ek at h
 obtain⟨v1,h2,h⟩:=jy h
 have rS:jz pr (X pr) 52 [Iv a0,Iv 0,Iv 999999999]=I (Iv v1,Eh):=N9 h2
 have hr:v1=r:=I.inj h
 subst hr
 rw[zh (show pr.bH 58=I IL from rfl) (by simp)]
 simp only[go_sem,seval,IL,rS]<;>rfl
def Hy (a0:Option (List (List UInt8)))(s0:(Option (List Int))×Int×Bool):Option (((Option (List Int))×Int×Bool)⊕(((Option (List Int))×Bool×Int))):=
 cond (decide (s0.2.1<((a0.getD []).length:Int)))
  (jx (zq (a0.getD []) s0.2.1) fun iP=>
  jx (Ej iP) fun v20=>
  cond s0.2.2
   (jx (bp s0.1 [v20]) fun ej=>
   I (.inl (ej,j9 .i64 (s0.2.1+1),El)))
   (cond s0.1.isNone
    (jx (bp s0.1 [v20]) fun dM=>
    I (.inl (dM,j9 .i64 (s0.2.1+1),El)))
    (En)))
  (I (.inr (s0.1,s0.2.2,s0.2.1)))
def IP (a0:Option (List (List UInt8)))(s0:(Option (List Int))×Int×Bool):qh:=⟨[(1,.fn (.func 55) [] [],Eh),(5,sl 1 kn s0.1,s0.2.2),(8,sl 1 yp a0,Eh),(9,Lv a0,Eh),(10,Iv s0.2.1,Eh)],[]⟩
def IQ (a0:Option (List (List UInt8)))(d:((Option (List Int))×Bool×Int)):qo×qh:=(.exit 0,⟨[(1,.fn (.func 55) [] [],Eh),(5,sl 1 kn d.1,d.2.1),(8,sl 1 yp a0,Eh),(9,Lv a0,Eh),(10,Iv d.2.2,Eh),(11,.bool Eh,Eh)],[]⟩)
theorem j3b (a0:Option (List (List UInt8)))(s0:(Option (List Int))×Int×Bool)(r)(h:Hy a0 s0=I r):y5 pr IU (IP a0) (IQ a0) s0 r:=by
 unfold Hy at h
 repeat' first|(replace h:=jy h;obtain⟨d,g,h⟩:=h;with_reducible first|replace g:=zcl [] g|replace g:=q51 g|skip)|(replace h:=j6 h;rcases h with⟨g,h⟩|⟨g,h⟩)|fail
 all_goals (cases h<;>(first|(refine z6 ?_;simp only[go_sem,seval,IU,IP,zn,IQ, *]<;>rfl)|(refine yo ?_;simp only[go_sem,seval,IU,IP,zn,IQ, *]<;>rfl)))
theorem j0m (a0:Option (List (List UInt8))){s0:(Option (List Int))×Int×Bool}{d}(h:bj (Hy a0) s0=I d):X pr (.loop IU) (IP a0 s0)=I (IQ a0 d):=kl (j3b a0) (fun d hh=>by cases hh) h
def f54 (a0:Option (List (List UInt8))):Option ((Option (List Int))×Bool):=
 jx (bj (Hy a0) (En,0,Eh)) fun d28=>
 I (d28.1,d28.2.1)
theorem W54 {a0:Option (List (List UInt8))}{r}(h:f54 a0=I r):jz pr (X pr) 54 [sl 1 yp a0,.fn (.func 55) [] []]=I (sl 1 kn r.1,r.2):=by
 unfold f54 at h
 refine eh IV ?_
 repeat' first|(replace h:=jy h;obtain⟨d,g,h⟩:=h;with_reducible first|(replace g:=j0m a0 g;dsimp only[IP,IQ,ki]at g h)|skip)|(replace h:=j6 h;rcases h with⟨g,h⟩|⟨g,h⟩)|fail
 all_goals (cases h<;>(simp only[go_sem,seval,IV, *];exact⟨_,rfl⟩))
def Hz (a0:Option (List Int))(s0:(Option (List Int))×Int×Bool):Option (((Option (List Int))×Int×Bool)⊕(((Option (List Int))×Bool×Int))):=
 cond (decide (s0.2.1<((a0.getD []).length:Int)))
  (jx (zq (a0.getD []) s0.2.1) fun iP=>
  jx (Ek iP) fun v20=>
  cond s0.2.2
   (jx (bp s0.1 [v20]) fun ej=>
   I (.inl (ej,j9 .i64 (s0.2.1+1),El)))
   (cond s0.1.isNone
    (jx (bp s0.1 [v20]) fun dM=>
    I (.inl (dM,j9 .i64 (s0.2.1+1),El)))
    (En)))
  (I (.inr (s0.1,s0.2.2,s0.2.1)))
def IW (a0:Option (List Int))(s0:(Option (List Int))×Int×Bool):qh:=⟨[(1,.fn (.func 58) [] [],Eh),(5,sl 1 kn s0.1,s0.2.2),(8,sl 1 kn a0,Eh),(9,Lv a0,Eh),(10,Iv s0.2.1,Eh)],[]⟩
def IX (a0:Option (List Int))(d:((Option (List Int))×Bool×Int)):qo×qh:=(.exit 0,⟨[(1,.fn (.func 58) [] [],Eh),(5,sl 1 kn d.1,d.2.1),(8,sl 1 kn a0,Eh),(9,Lv a0,Eh),(10,Iv d.2.2,Eh),(11,.bool Eh,Eh)],[]⟩)
theorem jv6 (a0:Option (List Int))(s0:(Option (List Int))×Int×Bool)(r)(h:Hz a0 s0=I r):y5 pr IY (IW a0) (IX a0) s0 r:=by
 unfold Hz at h
 repeat' first|(replace h:=jy h;obtain⟨d,g,h⟩:=h;with_reducible first|replace g:=zg6 [] g|replace g:=q51 g|skip)|(replace h:=j6 h;rcases h with⟨g,h⟩|⟨g,h⟩)|fail
 all_goals (cases h<;>(first|(refine z6 ?_;simp only[go_sem,seval,IY,IW,zn,IX, *]<;>rfl)|(refine yo ?_;simp only[go_sem,seval,IY,IW,zn,IX, *]<;>rfl)))
theorem jx6 (a0:Option (List Int)){s0:(Option (List Int))×Int×Bool}{d}(h:bj (Hz a0) s0=I d):X pr (.loop IY) (IW a0 s0)=I (IX a0 d):=kl (jv6 a0) (fun d hh=>by cases hh) h
def f57 (a0:Option (List Int)):Option ((Option (List Int))×Bool):=
 jx (bj (Hz a0) (En,0,Eh)) fun d28=>
 I (d28.1,d28.2.1)
theorem W57 {a0:Option (List Int)}{r}(h:f57 a0=I r):jz pr (X pr) 57 [sl 1 kn a0,.fn (.func 58) [] []]=I (sl 1 kn r.1,r.2):=by
 unfold f57 at h
 refine eh IZ ?_
 repeat' first|(replace h:=jy h;obtain⟨d,g,h⟩:=h;with_reducible first|(replace g:=jx6 a0 g;dsimp only[IW,IX,ki]at g h)|skip)|(replace h:=j6 h;rcases h with⟨g,h⟩|⟨g,h⟩)|fail
 all_goals (cases h<;>(simp only[go_sem,seval,IZ, *];exact⟨_,rfl⟩))
def f122 (a0:Option (List (List UInt8))):Option ((Option (List (List UInt8)))×Bool):=
 cond a0.isNone
  (I (En,Eh))
  (jx (bp (I []) (a0.getD [])) fun v2=>
  I (v2,El))
theorem zf0 {a0:Option (List (List UInt8))}{r}(h:f122 a0=I r):jz pr (X pr) 122 [sl 1 yp a0]=I (sl 1 yp r.1,r.2):=by
 unfold f122 at h
 refine eh sD ?_
 repeat' first|(replace h:=jy h;obtain⟨d,g,h⟩:=h)|(replace h:=j6 h;rcases h with⟨g,h⟩|⟨g,h⟩)|fail
 all_goals (cases h<;>(simp only[go_sem,seval,sD,lX, *];exact⟨_,rfl⟩))
def f123 (a0:Option (List Int)):Option ((Option (List Int))×Bool):=
 cond a0.isNone
  (I (En,Eh))
  (jx (bp (I []) (a0.getD [])) fun v2=>
  I (v2,El))
theorem zfd {a0:Option (List Int)}{r}(h:f123 a0=I r):jz pr (X pr) 123 [sl 1 kn a0]=I (sl 1 kn r.1,r.2):=by
 unfold f123 at h
 refine eh sE ?_
 repeat' first|(replace h:=jy h;obtain⟨d,g,h⟩:=h)|(replace h:=j6 h;rcases h with⟨g,h⟩|⟨g,h⟩)|fail
 all_goals (cases h<;>(simp only[go_sem,seval,sE,lX, *];exact⟨_,rfl⟩))
def f66 (a0:ql):Option ql:=
 jx (f122 a0.names) fun v1=>
 jx (f123 a0.values) fun v3=>
 cond v1.2
  (cond v3.2
   (I (⟨a0.number,a0.kind,v1.1,v3.1,a0.text⟩))
   (I (⟨a0.number,a0.kind,v1.1,v3.1,a0.text⟩)))
  (cond v3.2
   (I (⟨a0.number,a0.kind,v1.1,v3.1,a0.text⟩))
   (I (⟨a0.number,a0.kind,v1.1,v3.1,a0.text⟩)))
theorem W66 {a0:ql}{r}(h:f66 a0=I r):jz pr (X pr) 66 [aE a0]=I (aE r,Eh):=by
 unfold f66 at h
 refine yt I0 ?_
 repeat' first|(replace h:=jy h;obtain⟨d,g,h⟩:=h;with_reducible first|replace g:=zf0 g|replace g:=zfd g|skip)|(replace h:=j6 h;rcases h with⟨g,h⟩|⟨g,h⟩)|fail
 all_goals (cases h<;>(simp only[go_sem,seval,I0, *];exact⟨_,rfl⟩))
def Ob (a0:Option (List (List UInt8)))(a1:List UInt8)(s0:Int):Option (Int⊕(Int⊕Int)):=
 cond (decide (s0<((a0.getD []).length:Int)))
  (jx (zq (a0.getD []) s0) fun v10=>
  cond (decide (a1=v10))
   (I (.inr (.inl s0)))
   (I (.inl (j9 .i64 (s0+1)))))
  (I (.inr (.inr s0)))
def I1 (a0:Option (List (List UInt8)))(a1:List UInt8)(s0:Int):qh:=⟨[(0,sl 1 yp a0,Eh),(1,.str a1,Eh),(7,Lv a0,Eh),(8,Iv s0,Eh)],[]⟩
def I2 (a0:Option (List (List UInt8)))(a1:List UInt8):Int⊕Int→qo×qh
 | .inl d=>(.ret,⟨[(4,Iv d,Eh)],[]⟩)
 | .inr d=>(.exit 0,⟨[(0,sl 1 yp a0,Eh),(1,.str a1,Eh),(7,Lv a0,Eh),(8,Iv d,Eh),(9,.bool Eh,Eh)],[]⟩)
theorem jp9 (a0:Option (List (List UInt8)))(a1:List UInt8)(s0:Int)(r)(h:Ob a0 a1 s0=I r):y5 pr I3 (I1 a0 a1) (I2 a0 a1) s0 r:=by
 unfold Ob at h
 repeat' first|(replace h:=jy h;obtain⟨d,g,h⟩:=h)|(replace h:=j6 h;rcases h with⟨g,h⟩|⟨g,h⟩)|fail
 all_goals (cases h<;>(first|(refine z6 ?_;simp only[go_sem,seval,I3,I1,zn,I2, *]<;>rfl)|(refine yo ?_;simp only[go_sem,seval,I3,I1,zn,I2, *]<;>rfl)))
theorem jpj (a0:Option (List (List UInt8)))(a1:List UInt8){s0:Int}{d}(h:bj (Ob a0 a1) s0=I d):X pr (.loop I3) (I1 a0 a1 s0)=I (I2 a0 a1 d):=kl (jp9 a0 a1) (fun d=>by rcases d with d|d<;>(intro hh;cases hh)) h
def f147 (a0:Option (List (List UInt8)))(a1:List UInt8):Option Int:=
 jx (bj (Ob a0 a1) 0) fun d13=>match d13 with
  | .inl d15=>
   I d15
  | .inr d16=>
   I (-1)
theorem zg1 {a0:Option (List (List UInt8))}{a1:List UInt8}{r}(h:f147 a0 a1=I r):jz pr (X pr) 147 [sl 1 yp a0,.str a1]=I (Iv r,Eh):=by
 unfold f147 at h
 refine yt sF ?_
 repeat' first|(replace h:=jy h;obtain⟨d,g,h⟩:=h;with_reducible first|(replace g:=jpj a0 a1 g;rcases d with d|d<;>dsimp only[I1,I2,ki]at g h)|skip)|(replace h:=j6 h;rcases h with⟨g,h⟩|⟨g,h⟩)|fail
 all_goals (cases h<;>(simp only[go_sem,seval,sF, *];exact⟨_,rfl⟩))
def f87 (a0:Option (List (List UInt8)))(a1:List UInt8):Option Bool:=
 jx (f147 a0 a1) fun v1=>
 I (decide (0≤v1))
theorem W87 {a0:Option (List (List UInt8))}{a1:List UInt8}{r}(h:f87 a0 a1=I r):jz pr (X pr) 87 [sl 1 yp a0,.str a1]=I (.bool r,Eh):=by
 unfold f87 at h
 refine yt I4 ?_
 repeat' first|(replace h:=jy h;obtain⟨d,g,h⟩:=h;with_reducible first|replace g:=zg1 g|skip)|(replace h:=j6 h;rcases h with⟨g,h⟩|⟨g,h⟩)|fail
 all_goals (cases h<;>(simp only[go_sem,seval,I4, *];exact⟨_,rfl⟩))
end Go.Z
end
