/- Chapter 10. -/
import Derived.Test.YtimdocpnkimlfaaGreatDoorCA
set_option linter.unusedVariables false
set_option linter.unusedSimpArgs false
set_option maxRecDepth 100000
set_option maxHeartbeats 4000000
noncomputable section
open Option renaming some→I,none→Ga
open Bool renaming false→En,true→E3
namespace Go.Z
open Go Go.Abs Go.W
def f48 (a0:Bool)(a1:Int):Option Int:=
 cond a0
  (I a1)
  (I 0)
theorem fP {a0 a1 r}(h:f48 a0 a1=I r):qc pr (X pr) 48 [.bool a0,Iv a1]=I (Iv r,En):=by
 unfold f48 at h
 refine zi JR ?_
 repeat' first|(replace h:=qd h;rcases h with⟨g,h⟩|⟨g,h⟩)
 all_goals (cases h<;>(simp only[go_sem,seval,JR, *];exact⟨_,rfl⟩))
def Bq (a0:Option (List Int))(s0:Int):Option (Int⊕(Int⊕Int)):=
 cond (decide (s0<((a0.getD []).length:Int)))
  (qa (qq (a0.getD []) s0) fun v10=>
  cond (decide (v10=0))
   (I (.inl (qe .i64 (s0+1))))
   (I (.inr (.inl v10))))
  (I (.inr (.inr s0)))
def OB (a0:Option (List Int))(s0:Int):bf:=⟨[(5,sl 1 zw a0,En),(6,Lv a0,En),(7,Iv s0,En)],[]⟩
def OC (a0:Option (List Int)):Int⊕Int→jg×bf
 | .inl d=>(.ret,⟨[(2,Iv d,En)],[]⟩)
 | .inr d=>(.exit 0,⟨[(5,sl 1 zw a0,En),(6,Lv a0,En),(7,Iv d,En),(8,.bool En,En)],[]⟩)
theorem j1h (a0:Option (List Int))(s0:Int)(r)(h:Bq a0 s0=I r):jz pr OD (OB a0) (OC a0) s0 r:=by
 unfold Bq at h
 repeat' first|(replace h:=qb h;obtain⟨d,g,h⟩:=h)|(replace h:=qd h;rcases h with⟨g,h⟩|⟨g,h⟩)
 all_goals (cases h<;>((first|refine qz ?_|refine ju ?_);simp only[go_sem,seval,OD,OB,jh,OC, *]<;>rfl))
theorem j72 (a0:Option (List Int)){s0 d}(h:bz (Bq a0) s0=I d):X pr (.loop OD) (OB a0 s0)=I (OC a0 d):=zn (j1h a0) h
def f46 (a0:Option (List Int)):Option Int:=
 qa (bz (Bq a0) 0) fun d13=>match d13 with
  | .inl d15=>
   I d15
  | .inr d16=>
   I 0
theorem l7 {a0 r}(h:f46 a0=I r):qc pr (X pr) 46 [sl 1 zw a0]=I (Iv r,En):=by
 unfold f46 at h
 refine zi JS ?_
 repeat' first|(replace h:=qb h;obtain⟨d,g,h⟩:=h;with_reducible first|(replace g:=j72 a0 g;rcases d with d|d<;>dsimp only[OB,OC,zm]at g h)|skip)|(replace h:=qd h;rcases h with⟨g,h⟩|⟨g,h⟩)
 all_goals (cases h<;>(simp only[go_sem,seval,JS, *];exact⟨_,rfl⟩))
def f60 (a0:Int)(a1:Int)(a2:Int):Option Int:=
 cond (decide (a0<a1))
  (qa (f48 E3 3) fun v2=>
  I v2)
  (qa (f48 (decide (a2<a0)) 3) fun v4=>
  I v4)
theorem N5 {a0 a1 a2 r}(h:f60 a0 a1 a2=I r):qc pr (X pr) 60 [Iv a0,Iv a1,Iv a2]=I (Iv r,En):=by
 unfold f60 at h
 refine zi JT ?_
 repeat' first|(replace h:=qb h;obtain⟨d,g,h⟩:=h;with_reducible first|replace g:=fP g|skip)|(replace h:=qd h;rcases h with⟨g,h⟩|⟨g,h⟩)
 all_goals (cases h<;>(simp only[go_sem,seval,JT, *];exact⟨_,rfl⟩))
def zJ (a0:List UInt8)(s0:Int):Option (Int⊕(Unit⊕Int)):=
 cond (decide (s0<(a0.length:Int)))
  (qa (qq a0 s0) fun v70=>
  cond (decide (65≤(v70.toNat:Int)))
   (cond (decide ((v70.toNat:Int)≤90))
    (cond (decide (48≤(v70.toNat:Int)))
     (cond (decide ((v70.toNat:Int)≤57))
      (I (.inl (qe .i64 (s0+1))))
      (I (.inl (qe .i64 (s0+1)))))
     (I (.inl (qe .i64 (s0+1)))))
    (cond (decide (97≤(v70.toNat:Int)))
     (cond (decide (48≤(v70.toNat:Int)))
      (cond (decide ((v70.toNat:Int)≤57))
       (cond (decide ((v70.toNat:Int)≤122))
        (I (.inl (qe .i64 (s0+1))))
        (cond (decide (s0=0))
         (I (.inr (.inl ())))
         (I (.inl (qe .i64 (s0+1))))))
       (cond (decide ((v70.toNat:Int)≤122))
        (I (.inl (qe .i64 (s0+1))))
        (cond (decide (s0=0))
         (I (.inr (.inl ())))
         (cond (decide ((v70.toNat:Int)=95))
          (I (.inl (qe .i64 (s0+1))))
          (I (.inr (.inl ())))))))
      (cond (decide ((v70.toNat:Int)≤122))
       (I (.inl (qe .i64 (s0+1))))
       (cond (decide (s0=0))
        (I (.inr (.inl ())))
        (cond (decide ((v70.toNat:Int)=95))
         (I (.inl (qe .i64 (s0+1))))
         (I (.inr (.inl ())))))))
     (cond (decide (48≤(v70.toNat:Int)))
      (cond (decide ((v70.toNat:Int)≤57))
       (cond (decide (s0=0))
        (I (.inr (.inl ())))
        (I (.inl (qe .i64 (s0+1)))))
       (cond (decide (s0=0))
        (I (.inr (.inl ())))
        (cond (decide ((v70.toNat:Int)=95))
         (I (.inl (qe .i64 (s0+1))))
         (I (.inr (.inl ()))))))
      (cond (decide (s0=0))
       (I (.inr (.inl ())))
       (cond (decide ((v70.toNat:Int)=95))
        (I (.inl (qe .i64 (s0+1))))
        (I (.inr (.inl ()))))))))
   (cond (decide (97≤(v70.toNat:Int)))
    (cond (decide (48≤(v70.toNat:Int)))
     (cond (decide ((v70.toNat:Int)≤57))
      (cond (decide ((v70.toNat:Int)≤122))
       (I (.inl (qe .i64 (s0+1))))
       (cond (decide (s0=0))
        (I (.inr (.inl ())))
        (I (.inl (qe .i64 (s0+1))))))
      (cond (decide ((v70.toNat:Int)≤122))
       (I (.inl (qe .i64 (s0+1))))
       (cond (decide (s0=0))
        (I (.inr (.inl ())))
        (cond (decide ((v70.toNat:Int)=95))
         (I (.inl (qe .i64 (s0+1))))
         (I (.inr (.inl ())))))))
     (cond (decide ((v70.toNat:Int)≤122))
      (I (.inl (qe .i64 (s0+1))))
      (cond (decide (s0=0))
       (I (.inr (.inl ())))
       (cond (decide ((v70.toNat:Int)=95))
        (I (.inl (qe .i64 (s0+1))))
        (I (.inr (.inl ())))))))
    (cond (decide (48≤(v70.toNat:Int)))
     (cond (decide ((v70.toNat:Int)≤57))
      (cond (decide (s0=0))
       (I (.inr (.inl ())))
       (I (.inl (qe .i64 (s0+1)))))
      (cond (decide (s0=0))
       (I (.inr (.inl ())))
       (cond (decide ((v70.toNat:Int)=95))
        (I (.inl (qe .i64 (s0+1))))
        (I (.inr (.inl ()))))))
     (cond (decide (s0=0))
      (I (.inr (.inl ())))
      (cond (decide ((v70.toNat:Int)=95))
       (I (.inl (qe .i64 (s0+1))))
       (I (.inr (.inl ()))))))))
  (I (.inr (.inr s0)))
def OE (a0:List UInt8)(s0:Int):bf:=⟨[(0,.str a0,En),(3,Iv s0,En)],[]⟩
def OG (a0:List UInt8):Unit⊕Int→jg×bf
 | .inl d=>(.ret,⟨[(2,.bool En,En)],[]⟩)
 | .inr d=>(.exit 0,⟨[(0,.str a0,En),(3,Iv d,En),(17,.bool En,En)],[]⟩)
theorem j6r (a0:List UInt8)(s0:Int)(r)(h:zJ a0 s0=I r):jz pr OH (OE a0) (OG a0) s0 r:=by
 unfold zJ at h
 repeat' first|(replace h:=qb h;obtain⟨d,g,h⟩:=h)|(replace h:=qd h;rcases h with⟨g,h⟩|⟨g,h⟩)
 all_goals (cases h<;>((first|refine qz ?_|refine ju ?_);simp only[go_sem,seval,OH,OE,jlh,OG, *]<;>rfl))
theorem j67 (a0:List UInt8){s0 d}(h:bz (zJ a0) s0=I d):X pr (.loop OH) (OE a0 s0)=I (OG a0 d):=zn (j6r a0) h
def f90 (a0:List UInt8):Option Bool:=
 cond (decide ((a0.length:Int)=0))
  (I En)
  (cond (decide (24<(a0.length:Int)))
   (I En)
   (qa (bz (zJ a0) 0) fun d112=>match d112 with
    | .inl d114=>
     I En
    | .inr d115=>
     I E3))
theorem W90 {a0 r}(h:f90 a0=I r):qc pr (X pr) 90 [.str a0]=I (.bool r,En):=by
 unfold f90 at h
 refine zi OI ?_
 repeat' first|(replace h:=qb h;obtain⟨d,g,h⟩:=h;with_reducible first|(replace g:=j67 a0 g;rcases d with d|d<;>dsimp only[OE,OG,zm]at g h)|skip)|(replace h:=qd h;rcases h with⟨g,h⟩|⟨g,h⟩)
 all_goals (cases h<;>(simp only[go_sem,seval,OI, *];exact⟨_,rfl⟩))
def zK (a0:List UInt8):Option (Option (Nat)⊕(Nat⊕Nat)):=
 cond (decide (0<a0.length))
  (cond (decide (65≤((qn a0 0).1:Int)))
   (cond (decide (((qn a0 0).1:Int)≤90))
    (cond (decide (48≤((qn a0 0).1:Int)))
     (cond (decide (((qn a0 0).1:Int)≤57))
      (I (.inl (I (0+(qn a0 0).2))))
      (I (.inl (I (0+(qn a0 0).2)))))
     (I (.inl (I (0+(qn a0 0).2)))))
    (cond (decide (97≤((qn a0 0).1:Int)))
     (cond (decide (48≤((qn a0 0).1:Int)))
      (cond (decide (((qn a0 0).1:Int)≤57))
       (cond (decide (((qn a0 0).1:Int)≤122))
        (I (.inl (I (0+(qn a0 0).2))))
        (I (.inr (.inl (0+(qn a0 0).2)))))
       (cond (decide (((qn a0 0).1:Int)≤122))
        (I (.inl (I (0+(qn a0 0).2))))
        (I (.inr (.inl (0+(qn a0 0).2))))))
      (cond (decide (((qn a0 0).1:Int)≤122))
       (I (.inl (I (0+(qn a0 0).2))))
       (I (.inr (.inl (0+(qn a0 0).2))))))
     (cond (decide (48≤((qn a0 0).1:Int)))
      (cond (decide (((qn a0 0).1:Int)≤57))
       (I (.inr (.inl (0+(qn a0 0).2))))
       (I (.inr (.inl (0+(qn a0 0).2)))))
      (I (.inr (.inl (0+(qn a0 0).2)))))))
   (cond (decide (97≤((qn a0 0).1:Int)))
    (cond (decide (48≤((qn a0 0).1:Int)))
     (cond (decide (((qn a0 0).1:Int)≤57))
      (cond (decide (((qn a0 0).1:Int)≤122))
       (I (.inl (I (0+(qn a0 0).2))))
       (I (.inr (.inl (0+(qn a0 0).2)))))
      (cond (decide (((qn a0 0).1:Int)≤122))
       (I (.inl (I (0+(qn a0 0).2))))
       (I (.inr (.inl (0+(qn a0 0).2))))))
     (cond (decide (((qn a0 0).1:Int)≤122))
      (I (.inl (I (0+(qn a0 0).2))))
      (I (.inr (.inl (0+(qn a0 0).2))))))
    (cond (decide (48≤((qn a0 0).1:Int)))
     (cond (decide (((qn a0 0).1:Int)≤57))
      (I (.inr (.inl (0+(qn a0 0).2))))
      (I (.inr (.inl (0+(qn a0 0).2)))))
     (I (.inr (.inl (0+(qn a0 0).2)))))))
  (I (.inr (.inr 0)))
def zL (a0:List UInt8)(s0:Nat):Option (Option (Nat)⊕(Nat⊕Nat)):=
 cond (decide (s0<a0.length))
  (cond (decide (65≤((qn a0 s0).1:Int)))
   (cond (decide (((qn a0 s0).1:Int)≤90))
    (cond (decide (48≤((qn a0 s0).1:Int)))
     (cond (decide (((qn a0 s0).1:Int)≤57))
      (I (.inl (I (s0+(qn a0 s0).2))))
      (I (.inl (I (s0+(qn a0 s0).2)))))
     (I (.inl (I (s0+(qn a0 s0).2)))))
    (cond (decide (97≤((qn a0 s0).1:Int)))
     (cond (decide (48≤((qn a0 s0).1:Int)))
      (cond (decide (((qn a0 s0).1:Int)≤57))
       (cond (decide (((qn a0 s0).1:Int)≤122))
        (I (.inl (I (s0+(qn a0 s0).2))))
        (cond (decide ((s0:Int)=0))
         (I (.inr (.inl (s0+(qn a0 s0).2))))
         (I (.inl (I (s0+(qn a0 s0).2))))))
       (cond (decide (((qn a0 s0).1:Int)≤122))
        (I (.inl (I (s0+(qn a0 s0).2))))
        (cond (decide ((s0:Int)=0))
         (I (.inr (.inl (s0+(qn a0 s0).2))))
         (cond (decide (((qn a0 s0).1:Int)=95))
          (I (.inl (I (s0+(qn a0 s0).2))))
          (I (.inr (.inl (s0+(qn a0 s0).2))))))))
      (cond (decide (((qn a0 s0).1:Int)≤122))
       (I (.inl (I (s0+(qn a0 s0).2))))
       (cond (decide ((s0:Int)=0))
        (I (.inr (.inl (s0+(qn a0 s0).2))))
        (cond (decide (((qn a0 s0).1:Int)=95))
         (I (.inl (I (s0+(qn a0 s0).2))))
         (I (.inr (.inl (s0+(qn a0 s0).2))))))))
     (cond (decide (48≤((qn a0 s0).1:Int)))
      (cond (decide (((qn a0 s0).1:Int)≤57))
       (cond (decide ((s0:Int)=0))
        (I (.inr (.inl (s0+(qn a0 s0).2))))
        (I (.inl (I (s0+(qn a0 s0).2)))))
       (cond (decide ((s0:Int)=0))
        (I (.inr (.inl (s0+(qn a0 s0).2))))
        (cond (decide (((qn a0 s0).1:Int)=95))
         (I (.inl (I (s0+(qn a0 s0).2))))
         (I (.inr (.inl (s0+(qn a0 s0).2)))))))
      (cond (decide ((s0:Int)=0))
       (I (.inr (.inl (s0+(qn a0 s0).2))))
       (cond (decide (((qn a0 s0).1:Int)=95))
        (I (.inl (I (s0+(qn a0 s0).2))))
        (I (.inr (.inl (s0+(qn a0 s0).2)))))))))
   (cond (decide (97≤((qn a0 s0).1:Int)))
    (cond (decide (48≤((qn a0 s0).1:Int)))
     (cond (decide (((qn a0 s0).1:Int)≤57))
      (cond (decide (((qn a0 s0).1:Int)≤122))
       (I (.inl (I (s0+(qn a0 s0).2))))
       (cond (decide ((s0:Int)=0))
        (I (.inr (.inl (s0+(qn a0 s0).2))))
        (I (.inl (I (s0+(qn a0 s0).2))))))
      (cond (decide (((qn a0 s0).1:Int)≤122))
       (I (.inl (I (s0+(qn a0 s0).2))))
       (cond (decide ((s0:Int)=0))
        (I (.inr (.inl (s0+(qn a0 s0).2))))
        (cond (decide (((qn a0 s0).1:Int)=95))
         (I (.inl (I (s0+(qn a0 s0).2))))
         (I (.inr (.inl (s0+(qn a0 s0).2))))))))
     (cond (decide (((qn a0 s0).1:Int)≤122))
      (I (.inl (I (s0+(qn a0 s0).2))))
      (cond (decide ((s0:Int)=0))
       (I (.inr (.inl (s0+(qn a0 s0).2))))
       (cond (decide (((qn a0 s0).1:Int)=95))
        (I (.inl (I (s0+(qn a0 s0).2))))
        (I (.inr (.inl (s0+(qn a0 s0).2))))))))
    (cond (decide (48≤((qn a0 s0).1:Int)))
     (cond (decide (((qn a0 s0).1:Int)≤57))
      (cond (decide ((s0:Int)=0))
       (I (.inr (.inl (s0+(qn a0 s0).2))))
       (I (.inl (I (s0+(qn a0 s0).2)))))
      (cond (decide ((s0:Int)=0))
       (I (.inr (.inl (s0+(qn a0 s0).2))))
       (cond (decide (((qn a0 s0).1:Int)=95))
        (I (.inl (I (s0+(qn a0 s0).2))))
        (I (.inr (.inl (s0+(qn a0 s0).2)))))))
     (cond (decide ((s0:Int)=0))
      (I (.inr (.inl (s0+(qn a0 s0).2))))
      (cond (decide (((qn a0 s0).1:Int)=95))
       (I (.inl (I (s0+(qn a0 s0).2))))
       (I (.inr (.inl (s0+(qn a0 s0).2)))))))))
  (I (.inr (.inr s0)))
def Io (a0:List UInt8):Option (Nat)→Option (Option (Nat)⊕(Nat⊕Nat))
 |none=>zK a0
 |some x=>zL a0 x
def Yr (a0:List UInt8)(s0:Nat):bf:=⟨[(0,.str a0,En),(8,.ptr 0 0,En),(46,.bool En,En)],[.iter a0 s0]⟩
def Cx (a0:List UInt8):Option (Nat)→bf
 |none=>⟨[(0,.str a0,En),(8,.ptr 0 0,En)],[.iter a0 0]⟩
 |some x=>Yr a0 x
def Cy (a0:List UInt8):Nat⊕Nat→jg×bf
 | .inl d=>(.ret,⟨[(2,.bool En,En)],[.iter a0 d]⟩)
 | .inr d=>(.exit 0,⟨[(0,.str a0,En),(8,.ptr 0 0,En),(9,.aC [.bool En],En),(10,.bool En,En)],[.iter a0 d]⟩)
theorem jw0 (a0:List UInt8)(r)(h:zK a0=I r):jz pr Cz (Cx a0) (Cy a0) Ga r:=by
 unfold zK at h
 repeat' first|(replace h:=qd h;rcases h with⟨g,h⟩|⟨g,h⟩)
 all_goals (cases h<;>((first|refine qz ?_|refine ju ?_);simp only[go_sem,seval,Cz,Cx,Yr,L5,Cy, *]<;>rfl))
theorem jwm (a0:List UInt8)(s0:Nat)(r)(h:zL a0 s0=I r):jz pr Cz (Cx a0) (Cy a0) (I s0) r:=by
 unfold zL at h
 repeat' first|(replace h:=qd h;rcases h with⟨g,h⟩|⟨g,h⟩)
 all_goals (cases h<;>((first|refine qz ?_|refine ju ?_);simp only[go_sem,seval,Cz,Cx,Yr,L5,Cy, *]<;>rfl))
theorem j59 (a0:List UInt8):∀(x:Option (Nat)) (r) (h:Io a0 x=I r),jz pr Cz (Cx a0) (Cy a0) x r
 |none,r,h=>jw0 a0 r h
 |some x,r,h=>jwm a0 x r h
theorem j64 (a0:List UInt8){s0 d}(h:bz (Io a0) s0=I d):X pr (.loop Cz) (Cx a0 s0)=I (Cy a0 d):=zn (j59 a0) h
def f81 (a0:List UInt8):Option Bool:=
 qa (bz (Io a0) Ga) fun d192=>match d192 with
  | .inl d194=>
   I En
  | .inr d195=>
   cond (decide (a0=[]))
    (I En)
    (I (decide ((a0.length:Int)≤24)))
theorem W81 {a0 r}(h:f81 a0=I r):qc pr (X pr) 81 [.str a0]=I (.bool r,En):=by
 unfold f81 at h
 refine zi JU ?_
 repeat' first|(replace h:=qb h;obtain⟨d,g,h⟩:=h;with_reducible first|(replace g:=j64 a0 g;rcases d with d|d<;>dsimp only[Cx,Cy,zm]at g h)|skip)|(replace h:=qd h;rcases h with⟨g,h⟩|⟨g,h⟩)
 all_goals (cases h<;>(simp only[go_sem,seval,JU, *];exact⟨_,rfl⟩))
end Go.Z
namespace Go.Z
open Go Go.Abs Go.W
def EA (a0:List UInt8):Option Int:=
 qa (f81 a0) fun v1=>
 qa (f48 (!v1) 8) fun v3=>
 I v3
theorem j5r (hp:qh){a0 r}(h:EA a0=I r):ql pr (X pr) 110 [.str a0] hp=I (Iv r,En,hp):=by
 unfold EA at h
 obtain⟨v1,h2,h⟩:=qb h
 have jD:qc pr (X pr) 81 [.str a0]=I (.bool v1,En):=W81 h2
 obtain⟨v3,h4,h⟩:=qb h
 have wh:qc pr (X pr) 48 [.bool (!v1),Iv 8]=I (Iv v3,En):=fP h4
 have hr:v3=r:=I.inj h
 subst hr
 rw[qm (show pr.bM 110=I tK from rfl) (by simp)]
 simp only[go_sem,seval,tK,jD,wh]<;>rfl
def EB (a0:Int):Option Int:=
 qa (f60 a0 0 999999999) fun v1=>
 I v1
theorem j8g (hp:qh){a0 r}(h:EB a0=I r):ql pr (X pr) 112 [Iv a0] hp=I (Iv r,En,hp):=by
 unfold EB at h
 obtain⟨v1,h2,h⟩:=qb h
 have jD:qc pr (X pr) 60 [Iv a0,Iv 0,Iv 999999999]=I (Iv v1,En):=N5 h2
 have hr:v1=r:=I.inj h
 subst hr
 rw[qm (show pr.bM 112=I tL from rfl) (by simp)]
 simp only[go_sem,seval,tL,jD]<;>rfl
def Iq (a0:Option (List (List UInt8)))(s0:(Option (List Int))×Int×Bool):Option (((Option (List Int))×Int×Bool)⊕(((Option (List Int))×Bool×Int))):=
 cond (decide (s0.2.1<((a0.getD []).length:Int)))
  (qa (qq (a0.getD []) s0.2.1) fun jE=>
  qa (EA jE) fun v20=>
  cond s0.2.2
   (qa (bH s0.1 [v20]) fun v23=>
   I (.inl (v23,qe .i64 (s0.2.1+1),E3)))
   (cond s0.1.isNone
    (qa (bH s0.1 [v20]) fun v26=>
    I (.inl (v26,qe .i64 (s0.2.1+1),E3)))
    (Ga)))
  (I (.inr (s0.1,s0.2.2,s0.2.1)))
def OJ (a0:Option (List (List UInt8)))(s0:(Option (List Int))×Int×Bool):bf:=⟨[(1,.fn (.func 110) [] [],En),(5,sl 1 zw s0.1,s0.2.2),(8,sl 1 jd a0,En),(9,Lv a0,En),(10,Iv s0.2.1,En)],[]⟩
def OL (a0:Option (List (List UInt8)))(d:((Option (List Int))×Bool×Int)):jg×bf:=(.exit 0,⟨[(1,.fn (.func 110) [] [],En),(5,sl 1 zw d.1,d.2.1),(8,sl 1 jd a0,En),(9,Lv a0,En),(10,Iv d.2.2,En),(11,.bool En,En)],[]⟩)
theorem js2 (a0:Option (List (List UInt8)))(s0:(Option (List Int))×Int×Bool)(r)(h:Iq a0 s0=I r):jz pr OM (OJ a0) (OL a0) s0 r:=by
 unfold Iq at h
 repeat' first|(replace h:=qb h;obtain⟨d,g,h⟩:=h;with_reducible first|replace g:=j5r [] g|replace g:=q7z g|skip)|(replace h:=qd h;rcases h with⟨g,h⟩|⟨g,h⟩)
 all_goals (cases h<;>((first|refine qz ?_|refine ju ?_);simp only[go_sem,seval,OM,OJ,jh,OL, *]<;>rfl))
theorem jye (a0:Option (List (List UInt8))){s0 d}(h:bz (Iq a0) s0=I d):X pr (.loop OM) (OJ a0 s0)=I (OL a0 d):=zn (js2 a0) h
def Ip (a0:Option (List (List UInt8))):Option ((Option (List Int))×Bool):=
 qa (bz (Iq a0) (Ga,0,En)) fun d28=>
 I (d28.1,d28.2.1)
theorem zd1 {a0 r}(h:Ip a0=I r):qc pr (X pr) 109 [sl 1 jd a0,.fn (.func 110) [] []]=I (sl 1 zw r.1,r.2):=by
 unfold Ip at h
 refine y5 tM ?_
 repeat' first|(replace h:=qb h;obtain⟨d,g,h⟩:=h;with_reducible first|(replace g:=jye a0 g;dsimp only[OJ,OL,zm]at g h)|skip)|(replace h:=qd h;rcases h with⟨g,h⟩|⟨g,h⟩)
 all_goals (cases h<;>(simp only[go_sem,seval,tM, *];exact⟨_,rfl⟩))
def Iu (a0:Option (List Int))(s0:(Option (List Int))×Int×Bool):Option (((Option (List Int))×Int×Bool)⊕(((Option (List Int))×Bool×Int))):=
 cond (decide (s0.2.1<((a0.getD []).length:Int)))
  (qa (qq (a0.getD []) s0.2.1) fun jE=>
  qa (EB jE) fun v20=>
  cond s0.2.2
   (qa (bH s0.1 [v20]) fun v23=>
   I (.inl (v23,qe .i64 (s0.2.1+1),E3)))
   (cond s0.1.isNone
    (qa (bH s0.1 [v20]) fun v26=>
    I (.inl (v26,qe .i64 (s0.2.1+1),E3)))
    (Ga)))
  (I (.inr (s0.1,s0.2.2,s0.2.1)))
def OO (a0:Option (List Int))(s0:(Option (List Int))×Int×Bool):bf:=⟨[(1,.fn (.func 112) [] [],En),(5,sl 1 zw s0.1,s0.2.2),(8,sl 1 zw a0,En),(9,Lv a0,En),(10,Iv s0.2.1,En)],[]⟩
def OP (a0:Option (List Int))(d:((Option (List Int))×Bool×Int)):jg×bf:=(.exit 0,⟨[(1,.fn (.func 112) [] [],En),(5,sl 1 zw d.1,d.2.1),(8,sl 1 zw a0,En),(9,Lv a0,En),(10,Iv d.2.2,En),(11,.bool En,En)],[]⟩)
theorem jvm (a0:Option (List Int))(s0:(Option (List Int))×Int×Bool)(r)(h:Iu a0 s0=I r):jz pr OQ (OO a0) (OP a0) s0 r:=by
 unfold Iu at h
 repeat' first|(replace h:=qb h;obtain⟨d,g,h⟩:=h;with_reducible first|replace g:=j8g [] g|replace g:=q7z g|skip)|(replace h:=qd h;rcases h with⟨g,h⟩|⟨g,h⟩)
 all_goals (cases h<;>((first|refine qz ?_|refine ju ?_);simp only[go_sem,seval,OQ,OO,jh,OP, *]<;>rfl))
theorem jyx (a0:Option (List Int)){s0 d}(h:bz (Iu a0) s0=I d):X pr (.loop OQ) (OO a0 s0)=I (OP a0 d):=zn (jvm a0) h
def Ir (a0:Option (List Int)):Option ((Option (List Int))×Bool):=
 qa (bz (Iu a0) (Ga,0,En)) fun d28=>
 I (d28.1,d28.2.1)
theorem zfl {a0 r}(h:Ir a0=I r):qc pr (X pr) 111 [sl 1 zw a0,.fn (.func 112) [] []]=I (sl 1 zw r.1,r.2):=by
 unfold Ir at h
 refine y5 tN ?_
 repeat' first|(replace h:=qb h;obtain⟨d,g,h⟩:=h;with_reducible first|(replace g:=jyx a0 g;dsimp only[OO,OP,zm]at g h)|skip)|(replace h:=qd h;rcases h with⟨g,h⟩|⟨g,h⟩)
 all_goals (cases h<;>(simp only[go_sem,seval,tN, *];exact⟨_,rfl⟩))
def MC (a0:Option (List (List UInt8))):Option ((Option (List (List UInt8)))×Bool):=
 cond a0.isNone
  (I (Ga,En))
  (qa (bH (I []) (a0.getD [])) fun v2=>
  I (v2,E3))
theorem zhz {a0 r}(h:MC a0=I r):qc pr (X pr) 114 [sl 1 jd a0]=I (sl 1 jd r.1,r.2):=by
 unfold MC at h
 refine y5 tO ?_
 repeat' first|(replace h:=qb h;obtain⟨d,g,h⟩:=h)|(replace h:=qd h;rcases h with⟨g,h⟩|⟨g,h⟩)
 all_goals (cases h<;>(simp only[go_sem,seval,tO,kx, *];exact⟨_,rfl⟩))
def MD (a0:Option (List Int)):Option ((Option (List Int))×Bool):=
 cond a0.isNone
  (I (Ga,En))
  (qa (bH (I []) (a0.getD [])) fun v2=>
  I (v2,E3))
theorem ze7 {a0 r}(h:MD a0=I r):qc pr (X pr) 115 [sl 1 zw a0]=I (sl 1 zw r.1,r.2):=by
 unfold MD at h
 refine y5 tP ?_
 repeat' first|(replace h:=qb h;obtain⟨d,g,h⟩:=h)|(replace h:=qd h;rcases h with⟨g,h⟩|⟨g,h⟩)
 all_goals (cases h<;>(simp only[go_sem,seval,tP,kx, *];exact⟨_,rfl⟩))
def f50 (a0:GEv):Option GEv:=
 qa (MC a0.names) fun v1=>
 qa (MD a0.values) fun v3=>
 cond v1.2
  (cond v3.2
   (I (⟨a0.number,a0.kind,v1.1,v3.1,a0.text⟩))
   (I (⟨a0.number,a0.kind,v1.1,v3.1,a0.text⟩)))
  (cond v3.2
   (I (⟨a0.number,a0.kind,v1.1,v3.1,a0.text⟩))
   (I (⟨a0.number,a0.kind,v1.1,v3.1,a0.text⟩)))
theorem W50 {a0 r}(h:f50 a0=I r):qc pr (X pr) 50 [aE a0]=I (aE r,En):=by
 unfold f50 at h
 refine zi JV ?_
 repeat' first|(replace h:=qb h;obtain⟨d,g,h⟩:=h;with_reducible first|replace g:=zhz g|replace g:=ze7 g|skip)|(replace h:=qd h;rcases h with⟨g,h⟩|⟨g,h⟩)
 all_goals (cases h<;>(simp only[go_sem,seval,JV, *];exact⟨_,rfl⟩))
def OS (a0:Option (List (List UInt8)))(a1:List UInt8)(s0:Int):Option (Int⊕(Int⊕Int)):=
 cond (decide (s0<((a0.getD []).length:Int)))
  (qa (qq (a0.getD []) s0) fun v10=>
  cond (decide (a1=v10))
   (I (.inr (.inl s0)))
   (I (.inl (qe .i64 (s0+1)))))
  (I (.inr (.inr s0)))
def OT (a0:Option (List (List UInt8)))(a1:List UInt8)(s0:Int):bf:=⟨[(0,sl 1 jd a0,En),(1,.str a1,En),(7,Lv a0,En),(8,Iv s0,En)],[]⟩
def OU (a0:Option (List (List UInt8)))(a1:List UInt8):Int⊕Int→jg×bf
 | .inl d=>(.ret,⟨[(4,Iv d,En)],[]⟩)
 | .inr d=>(.exit 0,⟨[(0,sl 1 jd a0,En),(1,.str a1,En),(7,Lv a0,En),(8,Iv d,En),(9,.bool En,En)],[]⟩)
theorem jxw (a0:Option (List (List UInt8)))(a1:List UInt8)(s0:Int)(r)(h:OS a0 a1 s0=I r):jz pr OV (OT a0 a1) (OU a0 a1) s0 r:=by
 unfold OS at h
 repeat' first|(replace h:=qb h;obtain⟨d,g,h⟩:=h)|(replace h:=qd h;rcases h with⟨g,h⟩|⟨g,h⟩)
 all_goals (cases h<;>((first|refine qz ?_|refine ju ?_);simp only[go_sem,seval,OV,OT,jh,OU, *]<;>rfl))
theorem jrw (a0:Option (List (List UInt8)))(a1:List UInt8){s0 d}(h:bz (OS a0 a1) s0=I d):X pr (.loop OV) (OT a0 a1 s0)=I (OU a0 a1 d):=zn (jxw a0 a1) h
def MH (a0:Option (List (List UInt8)))(a1:List UInt8):Option Int:=
 qa (bz (OS a0 a1) 0) fun d13=>match d13 with
  | .inl d15=>
   I d15
  | .inr d16=>
   I (-1)
theorem zdx {a0 a1 r}(h:MH a0 a1=I r):qc pr (X pr) 123 [sl 1 jd a0,.str a1]=I (Iv r,En):=by
 unfold MH at h
 refine zi tQ ?_
 repeat' first|(replace h:=qb h;obtain⟨d,g,h⟩:=h;with_reducible first|(replace g:=jrw a0 a1 g;rcases d with d|d<;>dsimp only[OT,OU,zm]at g h)|skip)|(replace h:=qd h;rcases h with⟨g,h⟩|⟨g,h⟩)
 all_goals (cases h<;>(simp only[go_sem,seval,tQ, *];exact⟨_,rfl⟩))
def f69 (a0:Option (List (List UInt8)))(a1:List UInt8):Option Bool:=
 qa (MH a0 a1) fun v1=>
 I (decide (0≤v1))
theorem W69 {a0 a1 r}(h:f69 a0 a1=I r):qc pr (X pr) 69 [sl 1 jd a0,.str a1]=I (.bool r,En):=by
 unfold f69 at h
 refine zi JW ?_
 repeat' first|(replace h:=qb h;obtain⟨d,g,h⟩:=h;with_reducible first|replace g:=zdx g|skip)|(replace h:=qd h;rcases h with⟨g,h⟩|⟨g,h⟩)
 all_goals (cases h<;>(simp only[go_sem,seval,JW, *];exact⟨_,rfl⟩))
end Go.Z
namespace Go.Z
open Go Go.Abs Go.W
def OW (a0:au)(a1:List UInt8)(s0:Int):Option (Int⊕(Int⊕Int)):=
 cond (decide (s0<((a0.units.getD []).length:Int)))
  (qa (qq (a0.units.getD []) s0) fun v10=>
  cond (decide (v10.name=a1))
   (I (.inr (.inl s0)))
   (I (.inl (qe .i64 (s0+1)))))
  (I (.inr (.inr s0)))
def OX (a0:au)(a1:List UInt8)(s0:Int):bf:=⟨[(1,.str a1,En),(2,.ah (aR a0),En),(5,Iv s0,En)],[]⟩
def OY (a0:au)(a1:List UInt8):Int⊕Int→jg×bf
 | .inl d=>(.ret,⟨[(4,Iv d,En)],[]⟩)
 | .inr d=>(.exit 0,⟨[(1,.str a1,En),(2,.ah (aR a0),En),(5,Iv d,En),(10,.bool En,En)],[]⟩)
theorem jyy (a0:au)(a1:List UInt8)(s0:Int)(r)(h:OW a0 a1 s0=I r):jz pr OZ (OX a0 a1) (OY a0 a1) s0 r:=by
 unfold OW at h
 repeat' first|(replace h:=qb h;obtain⟨d,g,h⟩:=h)|(replace h:=qd h;rcases h with⟨g,h⟩|⟨g,h⟩)
 all_goals (cases h<;>((first|refine qz ?_|refine ju ?_);simp only[go_sem,seval,OZ,OX,jh,OY, *]<;>rfl))
theorem jt8 (a0:au)(a1:List UInt8){s0 d}(h:bz (OW a0 a1) s0=I d):X pr (.loop OZ) (OX a0 a1 s0)=I (OY a0 a1 d):=zn (jyy a0 a1) h
def Bh (a0:au)(a1:List UInt8):Option Int:=
 qa (bz (OW a0 a1) 0) fun d13=>match d13 with
  | .inl d15=>
   I d15
  | .inr d16=>
   I (-1)
theorem Yc {a0 a1 r}(h:Bh a0 a1=I r):qc pr (X pr) 152 [aR a0,.str a1]=I (Iv r,En):=by
 unfold Bh at h
 refine zi xp ?_
 repeat' first|(replace h:=qb h;obtain⟨d,g,h⟩:=h;with_reducible first|(replace g:=jt8 a0 a1 g;rcases d with d|d<;>dsimp only[OX,OY,zm]at g h)|skip)|(replace h:=qd h;rcases h with⟨g,h⟩|⟨g,h⟩)
 all_goals (cases h<;>(simp only[go_sem,seval,xp, *];exact⟨_,rfl⟩))
def O0 (a0:au)(a1:List UInt8)(s0:Int):Option (Int⊕(Int⊕Int)):=
 cond (decide (s0<((a0.ar.getD []).length:Int)))
  (qa (qq (a0.ar.getD []) s0) fun v10=>
  cond (decide (v10.name=a1))
   (I (.inr (.inl s0)))
   (I (.inl (qe .i64 (s0+1)))))
  (I (.inr (.inr s0)))
def O1 (a0:au)(a1:List UInt8)(s0:Int):bf:=⟨[(1,.str a1,En),(2,.ah (aR a0),En),(5,Iv s0,En)],[]⟩
def O2 (a0:au)(a1:List UInt8):Int⊕Int→jg×bf
 | .inl d=>(.ret,⟨[(4,Iv d,En)],[]⟩)
 | .inr d=>(.exit 0,⟨[(1,.str a1,En),(2,.ah (aR a0),En),(5,Iv d,En),(10,.bool En,En)],[]⟩)
theorem jv1 (a0:au)(a1:List UInt8)(s0:Int)(r)(h:O0 a0 a1 s0=I r):jz pr O3 (O1 a0 a1) (O2 a0 a1) s0 r:=by
 unfold O0 at h
 repeat' first|(replace h:=qb h;obtain⟨d,g,h⟩:=h)|(replace h:=qd h;rcases h with⟨g,h⟩|⟨g,h⟩)
 all_goals (cases h<;>((first|refine qz ?_|refine ju ?_);simp only[go_sem,seval,O3,O1,jh,O2, *]<;>rfl))
theorem jr1 (a0:au)(a1:List UInt8){s0 d}(h:bz (O0 a0 a1) s0=I d):X pr (.loop O3) (O1 a0 a1 s0)=I (O2 a0 a1 d):=zn (jv1 a0 a1) h
def wO (a0:au)(a1:List UInt8):Option Int:=
 qa (bz (O0 a0 a1) 0) fun d13=>match d13 with
  | .inl d15=>
   I d15
  | .inr d16=>
   I (-1)
theorem Jz {a0 a1 r}(h:wO a0 a1=I r):qc pr (X pr) 149 [aR a0,.str a1]=I (Iv r,En):=by
 unfold wO at h
 refine zi xq ?_
 repeat' first|(replace h:=qb h;obtain⟨d,g,h⟩:=h;with_reducible first|(replace g:=jr1 a0 a1 g;rcases d with d|d<;>dsimp only[O1,O2,zm]at g h)|skip)|(replace h:=qd h;rcases h with⟨g,h⟩|⟨g,h⟩)
 all_goals (cases h<;>(simp only[go_sem,seval,xq, *];exact⟨_,rfl⟩))
def O4 (a0:au)(a1:List UInt8)(s0:Int):Option (Int⊕(Int⊕Int)):=
 cond (decide (s0<((a0.ae.getD []).length:Int)))
  (qa (qq (a0.ae.getD []) s0) fun v10=>
  cond (decide (v10.name=a1))
   (I (.inr (.inl s0)))
   (I (.inl (qe .i64 (s0+1)))))
  (I (.inr (.inr s0)))
def O5 (a0:au)(a1:List UInt8)(s0:Int):bf:=⟨[(1,.str a1,En),(2,.ah (aR a0),En),(5,Iv s0,En)],[]⟩
def O6 (a0:au)(a1:List UInt8):Int⊕Int→jg×bf
 | .inl d=>(.ret,⟨[(4,Iv d,En)],[]⟩)
 | .inr d=>(.exit 0,⟨[(1,.str a1,En),(2,.ah (aR a0),En),(5,Iv d,En),(10,.bool En,En)],[]⟩)
theorem jxq (a0:au)(a1:List UInt8)(s0:Int)(r)(h:O4 a0 a1 s0=I r):jz pr O7 (O5 a0 a1) (O6 a0 a1) s0 r:=by
 unfold O4 at h
 repeat' first|(replace h:=qb h;obtain⟨d,g,h⟩:=h)|(replace h:=qd h;rcases h with⟨g,h⟩|⟨g,h⟩)
 all_goals (cases h<;>((first|refine qz ?_|refine ju ?_);simp only[go_sem,seval,O7,O5,jh,O6, *]<;>rfl))
theorem jw9 (a0:au)(a1:List UInt8){s0 d}(h:bz (O4 a0 a1) s0=I d):X pr (.loop O7) (O5 a0 a1 s0)=I (O6 a0 a1 d):=zn (jxq a0 a1) h
def wP (a0:au)(a1:List UInt8):Option Int:=
 qa (bz (O4 a0 a1) 0) fun d13=>match d13 with
  | .inl d15=>
   I d15
  | .inr d16=>
   I (-1)
theorem N4 {a0 a1 r}(h:wP a0 a1=I r):qc pr (X pr) 151 [aR a0,.str a1]=I (Iv r,En):=by
 unfold wP at h
 refine zi xr ?_
 repeat' first|(replace h:=qb h;obtain⟨d,g,h⟩:=h;with_reducible first|(replace g:=jw9 a0 a1 g;rcases d with d|d<;>dsimp only[O5,O6,zm]at g h)|skip)|(replace h:=qd h;rcases h with⟨g,h⟩|⟨g,h⟩)
 all_goals (cases h<;>(simp only[go_sem,seval,xr, *];exact⟨_,rfl⟩))
def BJ (a0:Option (List GEv))(s0:Int)(s1:Int):Option (Int⊕(Unit⊕Int)):=
 qa (qq (a0.getD []) s0) fun v79=>
 cond (decide (s1<((v79.names.getD []).length:Int)))
  (qa (qq (v79.names.getD []) s1) fun v82=>
  cond (decide (40<(v82.length:Int)))
   (I (.inr (.inl ())))
   (I (.inl (qe .i64 (s1+1)))))
  (I (.inr (.inr s1)))
def O8 (a0:Option (List GEv))(s0:Int)(s1:Int):bf:=⟨[(0,sl 5 vev a0,En),(5,Iv s0,En),(6,Iv s1,En)],[]⟩
def O9 (a0:Option (List GEv))(s0:Int):Unit⊕Int→jg×bf
 | .inl d=>(.ret,⟨[(4,.bool En,En)],[]⟩)
 | .inr d=>(.exit 2,⟨[(0,sl 5 vev a0,En),(5,Iv s0,En),(6,Iv d,En),(58,.bool En,En)],[]⟩)
theorem j8t (a0:Option (List GEv))(s0:Int)(s1:Int)(r)(h:BJ a0 s0 s1=I r):jz pr Pa (O8 a0 s0) (O9 a0 s0) s1 r:=by
 unfold BJ at h
 repeat' first|(replace h:=qb h;obtain⟨d,g,h⟩:=h)|(replace h:=qd h;rcases h with⟨g,h⟩|⟨g,h⟩)
 all_goals (cases h<;>((first|refine qz ?_|refine ju ?_);simp only[go_sem,seval,Pa,O8,jh,O9, *]<;>rfl))
theorem j2z (a0:Option (List GEv))(s0:Int){s1 d}(h:bz (BJ a0 s0) s1=I d):X pr (.loop Pa) (O8 a0 s0 s1)=I (O9 a0 s0 d):=zn (j8t a0 s0) h
def BI (a0:Option (List GEv))(s0:Int):Option (Int⊕(Unit⊕Int)):=
 cond (decide (s0<((a0.getD []).length:Int)))
  (qa (qq (a0.getD []) s0) fun xl=>
  cond (decide (40<(xl.kind.length:Int)))
   (I (.inr (.inl ())))
   (cond (decide (6<((xl.names.getD []).length:Int)))
    (I (.inr (.inl ())))
    (cond (decide (8<((xl.values.getD []).length:Int)))
     (I (.inr (.inl ())))
     (cond (decide (200<(xl.text.length:Int)))
      (I (.inr (.inl ())))
      (qa (bz (BJ a0 s0) 0) fun d85=>match d85 with
       | .inl d87=>
        I (.inr (.inl ()))
       | .inr d88=>
        I (.inl (qe .i64 (s0+1))))))))
  (I (.inr (.inr s0)))
def Pb (a0:Option (List GEv))(s0:Int):bf:=⟨[(0,sl 5 vev a0,En),(5,Iv s0,En)],[]⟩
def Pc (a0:Option (List GEv)):Unit⊕Int→jg×bf
 | .inl d=>(.ret,⟨[(4,.bool En,En)],[]⟩)
 | .inr d=>(.exit 0,⟨[(0,sl 5 vev a0,En),(5,Iv d,En),(14,.bool En,En)],[]⟩)
theorem j10 (a0:Option (List GEv))(s0:Int)(r)(h:BI a0 s0=I r):jz pr Pd (Pb a0) (Pc a0) s0 r:=by
 unfold BI at h
 repeat' first|(replace h:=qb h;obtain⟨d,g,h⟩:=h;with_reducible first|(replace g:=j2z a0 s0 g;rcases d with d|d<;>dsimp only[O8,O9,zm]at g h)|skip)|(replace h:=qd h;rcases h with⟨g,h⟩|⟨g,h⟩)
 all_goals (cases h<;>((first|refine qz ?_|refine ju ?_);simp only[go_sem,seval,Pd,Pb,jh,Pc, *]<;>rfl))
theorem j2y (a0:Option (List GEv)){s0 d}(h:bz (BI a0) s0=I d):X pr (.loop Pd) (Pb a0 s0)=I (Pc a0 d):=zn (j10 a0) h
def f12 (a0:Option (List GEv))(a1:Int):Option Bool:=
 cond (decide (a1<((a0.getD []).length:Int)))
  (I En)
  (qa (bz (BI a0) 0) fun d89=>match d89 with
   | .inl d91=>
    I En
   | .inr d92=>
    I E3)
theorem W12 {a0 a1 r}(h:f12 a0 a1=I r):qc pr (X pr) 12 [sl 5 vev a0,Iv a1]=I (.bool r,En):=by
 unfold f12 at h
 refine zi mR ?_
 repeat' first|(replace h:=qb h;obtain⟨d,g,h⟩:=h;with_reducible first|(replace g:=j2y a0 g;rcases d with d|d<;>dsimp only[Pb,Pc,zm]at g h)|skip)|(replace h:=qd h;rcases h with⟨g,h⟩|⟨g,h⟩)
 all_goals (cases h<;>(simp only[go_sem,seval,mR, *];exact⟨_,rfl⟩))
def Bm (a0:au)(a1:aY)(a2:List UInt8)(s0:Int×Int):Option ((Int×Int)⊕((Int×Int))):=
 cond (decide (s0.2<((a1.uses.getD []).length:Int)))
  (qa (qq (a1.uses.getD []) s0.2) fun jE=>
  qa (wO a0 jE.k) fun v20=>
  qa (qq (a0.ar.getD []) v20) fun v22=>
  cond (decide (v22.kind=a2))
   (I (.inl (qe .i64 (s0.1+jE.n),qe .i64 (s0.2+1))))
   (I (.inl (s0.1,qe .i64 (s0.2+1)))))
  (I (.inr (s0.1,s0.2)))
def Pe (a0:au)(a1:aY)(a2:List UInt8)(s0:Int×Int):bf:=⟨[(2,.str a2,En),(3,.ah (aR a0),En),(4,.ah (aU a1),En),(7,Iv s0.1,En),(8,Iv s0.2,En)],[]⟩
def Pg (a0:au)(a1:aY)(a2:List UInt8)(d:(Int×Int)):jg×bf:=(.exit 0,⟨[(2,.str a2,En),(3,.ah (aR a0),En),(4,.ah (aU a1),En),(7,Iv d.1,En),(8,Iv d.2,En),(13,.bool En,En)],[]⟩)
theorem jxt (a0:au)(a1:aY)(a2:List UInt8)(s0:Int×Int)(r)(h:Bm a0 a1 a2 s0=I r):jz pr Ph (Pe a0 a1 a2) (Pg a0 a1 a2) s0 r:=by
 unfold Bm at h
 repeat' first|(replace h:=qb h;obtain⟨d,g,h⟩:=h;with_reducible first|replace g:=Jz g|skip)|(replace h:=qd h;rcases h with⟨g,h⟩|⟨g,h⟩)
 all_goals (cases h<;>((first|refine qz ?_|refine ju ?_);simp only[go_sem,seval,Ph,Pe,jh,Pg, *]<;>rfl))
theorem jr8 (a0:au)(a1:aY)(a2:List UInt8){s0 d}(h:bz (Bm a0 a1 a2) s0=I d):X pr (.loop Ph) (Pe a0 a1 a2 s0)=I (Pg a0 a1 a2 d):=zn (jxt a0 a1 a2) h
def Hy (a0:au)(a1:aY)(a2:List UInt8):Option Int:=
 qa (bz (Bm a0 a1 a2) (0,0)) fun d25=>
 I d25.1
theorem zg1 {a0 a1 a2 r}(h:Hy a0 a1 a2=I r):qc pr (X pr) 306 [aR a0,aU a1,.str a2]=I (Iv r,En):=by
 unfold Hy at h
 refine zi xt ?_
 repeat' first|(replace h:=qb h;obtain⟨d,g,h⟩:=h;with_reducible first|(replace g:=jr8 a0 a1 a2 g;dsimp only[Pe,Pg,zm]at g h)|skip)|(replace h:=qd h;rcases h with⟨g,h⟩|⟨g,h⟩)
 all_goals (cases h<;>(simp only[go_sem,seval,xt, *];exact⟨_,rfl⟩))
def pR (a0:au)(a1:aY):Option bY:=
 qa (wP a0 a1.product) fun v1=>
 qa (qq (a0.ae.getD []) v1) fun v3=>
 qa (qq (v3.aW.getD []) (qe .i64 (a1.version-1))) fun v5=>
 I v5
theorem Pj {a0 a1 r}(h:pR a0 a1=I r):qc pr (X pr) 204 [aR a0,aU a1]=I (aD r,En):=by
 unfold pR at h
 refine zi tR ?_
 repeat' first|(replace h:=qb h;obtain⟨d,g,h⟩:=h;with_reducible first|replace g:=N4 g|skip)|(replace h:=qd h;rcases h with⟨g,h⟩|⟨g,h⟩)
 all_goals (cases h<;>(simp only[go_sem,seval,tR,jh, *];exact⟨_,rfl⟩))
def Bi (a0:aY)(a1:jf)(s0:Bool×Int):Option ((Bool×Int)⊕((Bool×Int))):=
 cond (decide (s0.2<((a0.results.getD []).length:Int)))
  (qa (qq (a0.results.getD []) s0.2) fun ef=>
  cond (decide (ef.k=a1.k))
   (cond (decide (ef.a=a0.version))
    (cond (decide (a1.a≤ef.b))
     (I (.inl (decide (ef.b≤a1.b),qe .i64 (s0.2+1))))
     (I (.inl (En,qe .i64 (s0.2+1)))))
    (I (.inl (s0.1,qe .i64 (s0.2+1)))))
   (I (.inl (s0.1,qe .i64 (s0.2+1)))))
  (I (.inr (s0.1,s0.2)))
def Pl (a0:aY)(a1:jf)(s0:Bool×Int):bf:=⟨[(2,.ah (aU a0),En),(3,.ah (aT a1),En),(5,.bool s0.1,En),(6,Iv s0.2,En)],[]⟩
def Pm (a0:aY)(a1:jf)(d:(Bool×Int)):jg×bf:=(.exit 0,⟨[(2,.ah (aU a0),En),(3,.ah (aT a1),En),(5,.bool d.1,En),(6,Iv d.2,En),(12,.bool En,En)],[]⟩)
theorem jsk (a0:aY)(a1:jf)(s0:Bool×Int)(r)(h:Bi a0 a1 s0=I r):jz pr Pn (Pl a0 a1) (Pm a0 a1) s0 r:=by
 unfold Bi at h
 repeat' first|(replace h:=qb h;obtain⟨d,g,h⟩:=h)|(replace h:=qd h;rcases h with⟨g,h⟩|⟨g,h⟩)
 all_goals (cases h<;>((first|refine qz ?_|refine ju ?_);simp only[go_sem,seval,Pn,Pl,jh,Pm, *]<;>rfl))
theorem jt6 (a0:aY)(a1:jf){s0 d}(h:bz (Bi a0 a1) s0=I d):X pr (.loop Pn) (Pl a0 a1 s0)=I (Pm a0 a1 d):=zn (jsk a0 a1) h
def Hp (a0:aY)(a1:jf):Option Bool:=
 qa (bz (Bi a0 a1) (En,0)) fun d19=>
 I d19.1
theorem zi2 {a0 a1 r}(h:Hp a0 a1=I r):qc pr (X pr) 205 [aU a0,aT a1]=I (.bool r,En):=by
 unfold Hp at h
 refine zi xu ?_
 repeat' first|(replace h:=qb h;obtain⟨d,g,h⟩:=h;with_reducible first|(replace g:=jt6 a0 a1 g;dsimp only[Pl,Pm,zm]at g h)|skip)|(replace h:=qd h;rcases h with⟨g,h⟩|⟨g,h⟩)
 all_goals (cases h<;>(simp only[go_sem,seval,xu, *];exact⟨_,rfl⟩))
def Ef (a0:au)(a1:aY):Option Int:=
 qa (wP a0 a1.product) fun v1=>
 qa (qq (a0.ae.getD []) v1) fun v3=>
 I ((v3.aW.getD []).length:Int)
theorem jr7 {a0 a1 r}(h:Ef a0 a1=I r):qc pr (X pr) 265 [aR a0,aU a1]=I (Iv r,En):=by
 unfold Ef at h
 refine zi tS ?_
 repeat' first|(replace h:=qb h;obtain⟨d,g,h⟩:=h;with_reducible first|replace g:=N4 g|skip)|(replace h:=qd h;rcases h with⟨g,h⟩|⟨g,h⟩)
 all_goals (cases h<;>(simp only[go_sem,seval,tS,jh, *];exact⟨_,rfl⟩))
def Bo (a0:au)(a1:aY)(v1:bY)(s0:Int):Option (Int⊕(Unit⊕Int)):=
 cond (decide (s0<((v1.aM.getD []).length:Int)))
  (qa (qq (v1.aM.getD []) s0) fun dD=>
  qa (Hy a0 a1 dD.k) fun jE=>
  cond (decide (jE<dD.n))
   (I (.inr (.inl ())))
   (I (.inl (qe .i64 (s0+1)))))
  (I (.inr (.inr s0)))
def Po (a0:au)(a1:aY)(v1:bY)(s0:Int):bf:=⟨[(2,.ah (aR a0),En),(3,.ah (aU a1),En),(5,.ah (aD v1),En),(6,Iv s0,En)],[]⟩
def Pp (a0:au)(a1:aY)(v1:bY):Unit⊕Int→jg×bf
 | .inl d=>(.ret,⟨[(4,.bool En,En)],[]⟩)
 | .inr d=>(.exit 0,⟨[(2,.ah (aR a0),En),(3,.ah (aU a1),En),(5,.ah (aD v1),En),(6,Iv d,En),(14,.bool En,En)],[]⟩)
theorem jxh (a0:au)(a1:aY)(v1:bY)(s0:Int)(r)(h:Bo a0 a1 v1 s0=I r):jz pr Pq (Po a0 a1 v1) (Pp a0 a1 v1) s0 r:=by
 unfold Bo at h
 repeat' first|(replace h:=qb h;obtain⟨d,g,h⟩:=h;with_reducible first|replace g:=zg1 g|skip)|(replace h:=qd h;rcases h with⟨g,h⟩|⟨g,h⟩)
 all_goals (cases h<;>((first|refine qz ?_|refine ju ?_);simp only[go_sem,seval,Pq,Po,jh,Pp, *]<;>rfl))
theorem jsb (a0:au)(a1:aY)(v1:bY){s0 d}(h:bz (Bo a0 a1 v1) s0=I d):X pr (.loop Pq) (Po a0 a1 v1 s0)=I (Pp a0 a1 v1 d):=zn (jxh a0 a1 v1) h
def HD (a0:au)(a1:aY):Option Bool:=
 qa (pR a0 a1) fun v1=>
 qa (bz (Bo a0 a1 v1) 0) fun d21=>match d21 with
  | .inl d23=>
   I En
  | .inr d24=>
   I E3
theorem zj5 {a0 a1 r}(h:HD a0 a1=I r):qc pr (X pr) 299 [aR a0,aU a1]=I (.bool r,En):=by
 unfold HD at h
 refine zi xw ?_
 repeat' first|(replace h:=qb h;obtain⟨d,g,h⟩:=h;with_reducible first|replace g:=Pj g|(replace g:=jsb a0 a1 _ g;rcases d with d|d<;>dsimp only[Po,Pp,zm]at g h)|skip)|(replace h:=qd h;rcases h with⟨g,h⟩|⟨g,h⟩)
 all_goals (cases h<;>(simp only[go_sem,seval,xw, *];exact⟨_,rfl⟩))
def Bl (a1:aY)(v1:bY)(s0:(Option (List (List UInt8)))×Int×Bool):Option (((Option (List (List UInt8)))×Int×Bool)⊕(((Option (List (List UInt8)))×Bool×Int))):=
 cond (decide (s0.2.1<((v1.aH.getD []).length:Int)))
  (qa (qq (v1.aH.getD []) s0.2.1) fun v22=>
  qa (Hp a1 v22) fun v24=>
  cond v24
   (I (.inl (s0.1,qe .i64 (s0.2.1+1),s0.2.2)))
   (cond s0.2.2
    (qa (bH s0.1 [v22.k]) fun v28=>
    I (.inl (v28,qe .i64 (s0.2.1+1),E3)))
    (cond s0.1.isNone
     (qa (bH s0.1 [v22.k]) fun v31=>
     I (.inl (v31,qe .i64 (s0.2.1+1),E3)))
     (Ga))))
  (I (.inr (s0.1,s0.2.2,s0.2.1)))
def Pr (a1:aY)(v1:bY)(s0:(Option (List (List UInt8)))×Int×Bool):bf:=⟨[(3,.ah (aU a1),En),(5,.ah (aD v1),En),(6,sl 1 jd s0.1,s0.2.2),(7,Iv s0.2.1,En)],[]⟩
def Ps (a1:aY)(v1:bY)(d:((Option (List (List UInt8)))×Bool×Int)):jg×bf:=(.exit 0,⟨[(3,.ah (aU a1),En),(5,.ah (aD v1),En),(6,sl 1 jd d.1,d.2.1),(7,Iv d.2.2,En),(15,.bool En,En)],[]⟩)
theorem jyl (a1:aY)(v1:bY)(s0:(Option (List (List UInt8)))×Int×Bool)(r)(h:Bl a1 v1 s0=I r):jz pr Pt (Pr a1 v1) (Ps a1 v1) s0 r:=by
 unfold Bl at h
 repeat' first|(replace h:=qb h;obtain⟨d,g,h⟩:=h;with_reducible first|replace g:=zi2 g|replace g:=He g|skip)|(replace h:=qd h;rcases h with⟨g,h⟩|⟨g,h⟩)
 all_goals (cases h<;>((first|refine qz ?_|refine ju ?_);simp only[go_sem,seval,Pt,Pr,jh,Ps, *]<;>rfl))
theorem jxj (a1:aY)(v1:bY){s0 d}(h:bz (Bl a1 v1) s0=I d):X pr (.loop Pt) (Pr a1 v1 s0)=I (Ps a1 v1 d):=zn (jyl a1 v1) h
def Eh (a0:au)(a1:aY):Option ((Option (List (List UInt8)))×Bool):=
 qa (pR a0 a1) fun v1=>
 qa (bz (Bl a1 v1) (Ga,0,En)) fun d33=>
 I (d33.1,d33.2.1)
theorem zcu {a0 a1 r}(h:Eh a0 a1=I r):qc pr (X pr) 154 [aR a0,aU a1]=I (sl 1 jd r.1,r.2):=by
 unfold Eh at h
 refine y5 xy ?_
 repeat' first|(replace h:=qb h;obtain⟨d,g,h⟩:=h;with_reducible first|replace g:=Pj g|(replace g:=jxj a1 _ g;dsimp only[Pr,Ps,zm]at g h)|skip)|(replace h:=qd h;rcases h with⟨g,h⟩|⟨g,h⟩)
 all_goals (cases h<;>(simp only[go_sem,seval,xy, *];exact⟨_,rfl⟩))
def yX (a0:au)(a1:aY)(s0:Int):Option (Int⊕(Unit⊕Int)):=
 cond (decide (s0<((a1.uses.getD []).length:Int)))
  (qa (qq (a1.uses.getD []) s0) fun v28=>
  qa (wO a0 v28.k) fun v30=>
  qa (qq (a0.ar.getD []) v30) fun lD=>
  cond lD.held
   (I (.inr (.inl ())))
   (I (.inl (qe .i64 (s0+1)))))
  (I (.inr (.inr s0)))
def Pu (a0:au)(a1:aY)(s0:Int):bf:=⟨[(2,.ah (aR a0),En),(3,.ah (.agg [.str a1.name,.str a1.product,Iv a1.version,sl 2 bm a1.uses,sl 3 q9 a1.results,.str a1.partner,.bool En,Iv a1.ak]),En),(5,Iv s0,En)],[]⟩
def Pv (a0:au)(a1:aY):Unit⊕Int→jg×bf
 | .inl d=>(.ret,⟨[(4,Iv 34,En)],[]⟩)
 | .inr d=>(.exit 0,⟨[(2,.ah (aR a0),En),(3,.ah (.agg [.str a1.name,.str a1.product,Iv a1.version,sl 2 bm a1.uses,sl 3 q9 a1.results,.str a1.partner,.bool En,Iv a1.ak]),En),(5,Iv d,En),(27,.bool En,En)],[]⟩)
theorem jw4 (a0:au)(a1:aY)(s0:Int)(r)(h:yX a0 a1 s0=I r):jz pr Px (Pu a0 a1) (Pv a0 a1) s0 r:=by
 unfold yX at h
 repeat' first|(replace h:=qb h;obtain⟨d,g,h⟩:=h;with_reducible first|replace g:=Jz g|skip)|(replace h:=qd h;rcases h with⟨g,h⟩|⟨g,h⟩)
 all_goals (cases h<;>((first|refine qz ?_|refine ju ?_);simp only[go_sem,seval,Px,Pu,jh,Pv, *]<;>rfl))
theorem jyt (a0:au)(a1:aY){s0 d}(h:bz (yX a0 a1) s0=I d):X pr (.loop Px) (Pu a0 a1 s0)=I (Pv a0 a1 d):=zn (jw4 a0 a1) h
def f266 (a0:au)(a1:aY):Option Int:=
 cond a1.aj
  (I 21)
  (qa (Ef a0 (⟨a1.name,a1.product,a1.version,a1.uses,a1.results,a1.partner,En,a1.ak⟩)) fun v2=>
  cond (decide (a1.version=v2))
   (qa (HD a0 (⟨a1.name,a1.product,a1.version,a1.uses,a1.results,a1.partner,En,a1.ak⟩)) fun v5=>
   cond v5
    (qa (Eh a0 (⟨a1.name,a1.product,a1.version,a1.uses,a1.results,a1.partner,En,a1.ak⟩)) fun v8=>
    cond (decide (0<((v8.1.getD []).length:Int)))
     (I 31)
     (qa (bz (yX a0 a1) 0) fun d35=>match d35 with
      | .inl d37=>
       I 34
      | .inr d38=>
       I 0))
    (I 20))
   (I 32))
theorem zjb {a0 a1 r}(h:f266 a0 a1=I r):qc pr (X pr) 266 [.agg [.int .i64 a0.day,sl 5 jb a0.ar,sl 4 qu a0.ae,sl 8 bj a0.units],.agg [.str a1.name,.str a1.product,.int .i64 a1.version,sl 2 bm a1.uses,sl 3 q9 a1.results,.str a1.partner,.bool a1.aj,.int .i64 a1.ak]]=I (.int .i64 r,En):=by
 unfold f266 at h
 refine zi xB ?_
 repeat' first|(replace h:=qb h;obtain⟨d,g,h⟩:=h;with_reducible first|replace g:=jr7 g|replace g:=zj5 g|replace g:=zcu g|(replace g:=jyt a0 a1 g;rcases d with d|d<;>dsimp only[Pu,Pv,zm]at g h)|skip)|(replace h:=qd h;rcases h with⟨g,h⟩|⟨g,h⟩)
 all_goals (cases h<;>(simp only[go_sem,seval,xB, *];exact⟨_,rfl⟩))
end Go.Z
namespace Go.Z
open Go Go.Abs Go.W
def f88 (a0:Int)(a1:Int)(a2:Int):Option Bool:=
 cond (decide (a0<a1))
  (I E3)
  (I (decide (a2<a0)))
theorem Yb {a0 a1 a2 r}(h:f88 a0 a1 a2=I r):qc pr (X pr) 88 [Iv a0,Iv a1,Iv a2]=I (.bool r,En):=by
 unfold f88 at h
 refine zi JX ?_
 repeat' first|(replace h:=qd h;rcases h with⟨g,h⟩|⟨g,h⟩)
 all_goals (cases h<;>(simp only[go_sem,seval,JX, *];exact⟨_,rfl⟩))
end Go.Z
namespace Go.Z
open Go Go.Abs Go.W
def Mb (a0:Int)(a1:au)(a2:List UInt8):Option Bool:=
 qa (qq (a1.ar.getD []) a0) fun v1=>
 I (decide (v1.name=a2))
theorem zf2 (hp:qh){a0 a1 a2 r}(h:Mb a0 a1 a2=I r):ql pr (X pr) 119 [Iv a0,.ah (aR a1),.ah (.str a2)] hp=I (.bool r,En,hp):=by
 unfold Mb at h
 obtain⟨v1,h2,h⟩:=qb h
 have hr:decide (v1.name=a2)=r:=I.inj h
 subst hr
 rw[qm (show pr.bM 119=I tT from rfl) (by simp)]
 simp only[go_sem,seval,tT,z7 h2]<;>rfl
def Hj (a0:Int)(ai:au)(bq:List UInt8)(s0:Int):Option (Int⊕(Int⊕Int)):=
 cond (decide (s0<a0))
  (qa (Mb s0 ai bq) fun v10=>
  cond v10
   (I (.inr (.inl s0)))
   (I (.inl (qe .i64 (s0+1)))))
  (I (.inr (.inr s0)))
def Py (a0:Int)(ai:au)(bq:List UInt8)(s0:Int):bf:=⟨[(1,.fn (.func 119) [] [.ah (aR ai),.ah (.str bq)],En),(5,Iv (-1),En),(7,Iv a0,En),(8,Iv s0,En)],[]⟩
def Pz (a0:Int)(ai:au)(bq:List UInt8):Int⊕Int→jg×bf
 | .inl d=>(.exit 0,⟨[(5,Iv d,En)],[]⟩)
 | .inr d=>(.exit 0,⟨[(1,.fn (.func 119) [] [.ah (aR ai),.ah (.str bq)],En),(5,Iv (-1),En),(7,Iv a0,En),(8,Iv d,En),(9,.bool En,En)],[]⟩)
theorem jpg (a0:Int)(ai:au)(bq:List UInt8)(s0:Int)(r)(h:Hj a0 ai bq s0=I r):jz pr wm (Py a0 ai bq) (Pz a0 ai bq) s0 r:=by
 unfold Hj at h
 repeat' first|(replace h:=qb h;obtain⟨d,g,h⟩:=h;with_reducible first|replace g:=zf2 [] g|skip)|(replace h:=qd h;rcases h with⟨g,h⟩|⟨g,h⟩)
 all_goals (cases h<;>((first|refine qz ?_|refine ju ?_);simp only[go_sem,seval,wm,Py,Pz, *]<;>rfl))
theorem jqo (a0:Int)(ai:au)(bq:List UInt8){s0 d}(h:bz (Hj a0 ai bq) s0=I d):X pr (.loop wm) (Py a0 ai bq s0)=I (Pz a0 ai bq d):=zn (jpg a0 ai bq) h
def Hh (a0:Int)(ai:au)(bq:List UInt8):Option Int:=
 qa (bz (Hj a0 ai bq) 0) fun d13=>match d13 with
  | .inl d15=>
   I d15
  | .inr d16=>
   I (-1)
theorem j8r {a0 ai bq r}(h:Hh a0 ai bq=I r):qc pr (X pr) 118 [Iv a0,.fn (.func 119) [] [.ah (aR ai),.ah (.str bq)]]=I (Iv r,En):=by
 unfold Hh at h
 refine zi lm ?_
 repeat' first|(replace h:=qb h;obtain⟨d,g,h⟩:=h;with_reducible first|(replace g:=jqo a0 ai bq g;rcases d with d|d<;>dsimp only[Py,Pz,zm]at g h)|skip)|(replace h:=qd h;rcases h with⟨g,h⟩|⟨g,h⟩)
 all_goals (cases h<;>(simp only[go_sem,seval,lm, *];exact⟨_,rfl⟩))
def f64 (a0:au)(a1:List UInt8):Option Int:=
 qa (Hh ((a0.ar.getD []).length:Int) a0 a1) fun v1=>
 I v1
theorem Cj {a0 a1 r}(h:f64 a0 a1=I r):qc pr (X pr) 64 [aR a0,.str a1]=I (Iv r,En):=by
 unfold f64 at h
 refine zi JY ?_
 repeat' first|(replace h:=qb h;obtain⟨d,g,h⟩:=h;with_reducible first|replace g:=j8r g|skip)|(replace h:=qd h;rcases h with⟨g,h⟩|⟨g,h⟩)
 all_goals (cases h<;>(simp only[go_sem,seval,JY, *];exact⟨_,rfl⟩))
def f206 (a0:Int)(a1:au)(a2:List UInt8):Option Bool:=
 qa (qq (a1.ae.getD []) a0) fun v1=>
 I (decide (v1.name=a2))
theorem zik (hp:qh){a0 a1 a2 r}(h:f206 a0 a1 a2=I r):ql pr (X pr) 206 [Iv a0,.ah (aR a1),.ah (.str a2)] hp=I (.bool r,En,hp):=by
 unfold f206 at h
 obtain⟨v1,h2,h⟩:=qb h
 have hr:decide (v1.name=a2)=r:=I.inj h
 subst hr
 rw[qm (show pr.bM 206=I tU from rfl) (by simp)]
 simp only[go_sem,seval,tU,z7 h2]<;>rfl
def Hl (a0:Int)(ai:au)(bq:List UInt8)(s0:Int):Option (Int⊕(Int⊕Int)):=
 cond (decide (s0<a0))
  (qa (f206 s0 ai bq) fun v10=>
  cond v10
   (I (.inr (.inl s0)))
   (I (.inl (qe .i64 (s0+1)))))
  (I (.inr (.inr s0)))
def PA (a0:Int)(ai:au)(bq:List UInt8)(s0:Int):bf:=⟨[(1,.fn (.func 206) [] [.ah (aR ai),.ah (.str bq)],En),(5,Iv (-1),En),(7,Iv a0,En),(8,Iv s0,En)],[]⟩
def PB (a0:Int)(ai:au)(bq:List UInt8):Int⊕Int→jg×bf
 | .inl d=>(.exit 0,⟨[(5,Iv d,En)],[]⟩)
 | .inr d=>(.exit 0,⟨[(1,.fn (.func 206) [] [.ah (aR ai),.ah (.str bq)],En),(5,Iv (-1),En),(7,Iv a0,En),(8,Iv d,En),(9,.bool En,En)],[]⟩)
theorem joe (a0:Int)(ai:au)(bq:List UInt8)(s0:Int)(r)(h:Hl a0 ai bq s0=I r):jz pr wm (PA a0 ai bq) (PB a0 ai bq) s0 r:=by
 unfold Hl at h
 repeat' first|(replace h:=qb h;obtain⟨d,g,h⟩:=h;with_reducible first|replace g:=zik [] g|skip)|(replace h:=qd h;rcases h with⟨g,h⟩|⟨g,h⟩)
 all_goals (cases h<;>((first|refine qz ?_|refine ju ?_);simp only[go_sem,seval,wm,PA,PB, *]<;>rfl))
theorem jpa (a0:Int)(ai:au)(bq:List UInt8){s0 d}(h:bz (Hl a0 ai bq) s0=I d):X pr (.loop wm) (PA a0 ai bq s0)=I (PB a0 ai bq d):=zn (joe a0 ai bq) h
def Hk (a0:Int)(ai:au)(bq:List UInt8):Option Int:=
 qa (bz (Hl a0 ai bq) 0) fun d13=>match d13 with
  | .inl d15=>
   I d15
  | .inr d16=>
   I (-1)
theorem j5i {a0 ai bq r}(h:Hk a0 ai bq=I r):qc pr (X pr) 118 [Iv a0,.fn (.func 206) [] [.ah (aR ai),.ah (.str bq)]]=I (Iv r,En):=by
 unfold Hk at h
 refine zi lm ?_
 repeat' first|(replace h:=qb h;obtain⟨d,g,h⟩:=h;with_reducible first|(replace g:=jpa a0 ai bq g;rcases d with d|d<;>dsimp only[PA,PB,zm]at g h)|skip)|(replace h:=qd h;rcases h with⟨g,h⟩|⟨g,h⟩)
 all_goals (cases h<;>(simp only[go_sem,seval,lm, *];exact⟨_,rfl⟩))
def ov (a0:au)(a1:List UInt8):Option Int:=
 qa (Hk ((a0.ae.getD []).length:Int) a0 a1) fun v1=>
 I v1
theorem wc {a0 a1 r}(h:ov a0 a1=I r):qc pr (X pr) 161 [aR a0,.str a1]=I (Iv r,En):=by
 unfold ov at h
 refine zi tV ?_
 repeat' first|(replace h:=qb h;obtain⟨d,g,h⟩:=h;with_reducible first|replace g:=j5i g|skip)|(replace h:=qd h;rcases h with⟨g,h⟩|⟨g,h⟩)
 all_goals (cases h<;>(simp only[go_sem,seval,tV, *];exact⟨_,rfl⟩))
def Me (a0:Int)(a1:au)(a2:List UInt8):Option Bool:=
 qa (qq (a1.units.getD []) a0) fun v1=>
 I (decide (v1.name=a2))
theorem zh9 (hp:qh){a0 a1 a2 r}(h:Me a0 a1 a2=I r):ql pr (X pr) 124 [Iv a0,.ah (aR a1),.ah (.str a2)] hp=I (.bool r,En,hp):=by
 unfold Me at h
 obtain⟨v1,h2,h⟩:=qb h
 have hr:decide (v1.name=a2)=r:=I.inj h
 subst hr
 rw[qm (show pr.bM 124=I tW from rfl) (by simp)]
 simp only[go_sem,seval,tW,z7 h2]<;>rfl
def Hn (a0:Int)(ai:au)(bq:List UInt8)(s0:Int):Option (Int⊕(Int⊕Int)):=
 cond (decide (s0<a0))
  (qa (Me s0 ai bq) fun v10=>
  cond v10
   (I (.inr (.inl s0)))
   (I (.inl (qe .i64 (s0+1)))))
  (I (.inr (.inr s0)))
def PD (a0:Int)(ai:au)(bq:List UInt8)(s0:Int):bf:=⟨[(1,.fn (.func 124) [] [.ah (aR ai),.ah (.str bq)],En),(5,Iv (-1),En),(7,Iv a0,En),(8,Iv s0,En)],[]⟩
def PE (a0:Int)(ai:au)(bq:List UInt8):Int⊕Int→jg×bf
 | .inl d=>(.exit 0,⟨[(5,Iv d,En)],[]⟩)
 | .inr d=>(.exit 0,⟨[(1,.fn (.func 124) [] [.ah (aR ai),.ah (.str bq)],En),(5,Iv (-1),En),(7,Iv a0,En),(8,Iv d,En),(9,.bool En,En)],[]⟩)
theorem jrc (a0:Int)(ai:au)(bq:List UInt8)(s0:Int)(r)(h:Hn a0 ai bq s0=I r):jz pr wm (PD a0 ai bq) (PE a0 ai bq) s0 r:=by
 unfold Hn at h
 repeat' first|(replace h:=qb h;obtain⟨d,g,h⟩:=h;with_reducible first|replace g:=zh9 [] g|skip)|(replace h:=qd h;rcases h with⟨g,h⟩|⟨g,h⟩)
 all_goals (cases h<;>((first|refine qz ?_|refine ju ?_);simp only[go_sem,seval,wm,PD,PE, *]<;>rfl))
theorem jpu (a0:Int)(ai:au)(bq:List UInt8){s0 d}(h:bz (Hn a0 ai bq) s0=I d):X pr (.loop wm) (PD a0 ai bq s0)=I (PE a0 ai bq d):=zn (jrc a0 ai bq) h
def Hm (a0:Int)(ai:au)(bq:List UInt8):Option Int:=
 qa (bz (Hn a0 ai bq) 0) fun d13=>match d13 with
  | .inl d15=>
   I d15
  | .inr d16=>
   I (-1)
theorem j2p {a0 ai bq r}(h:Hm a0 ai bq=I r):qc pr (X pr) 118 [Iv a0,.fn (.func 124) [] [.ah (aR ai),.ah (.str bq)]]=I (Iv r,En):=by
 unfold Hm at h
 refine zi lm ?_
 repeat' first|(replace h:=qb h;obtain⟨d,g,h⟩:=h;with_reducible first|(replace g:=jpu a0 ai bq g;rcases d with d|d<;>dsimp only[PD,PE,zm]at g h)|skip)|(replace h:=qd h;rcases h with⟨g,h⟩|⟨g,h⟩)
 all_goals (cases h<;>(simp only[go_sem,seval,lm, *];exact⟨_,rfl⟩))
def f76 (a0:au)(a1:List UInt8):Option Int:=
 qa (Hm ((a0.units.getD []).length:Int) a0 a1) fun v1=>
 I v1
theorem tz {a0 a1 r}(h:f76 a0 a1=I r):qc pr (X pr) 76 [aR a0,.str a1]=I (Iv r,En):=by
 unfold f76 at h
 refine zi JZ ?_
 repeat' first|(replace h:=qb h;obtain⟨d,g,h⟩:=h;with_reducible first|replace g:=j2p g|skip)|(replace h:=qd h;rcases h with⟨g,h⟩|⟨g,h⟩)
 all_goals (cases h<;>(simp only[go_sem,seval,JZ, *];exact⟨_,rfl⟩))
def Et (a0:au)(a1:Int)(a2:List UInt8):Option Bool:=
 cond (decide (a1=108))
  (qa (f64 a0 a2) fun v2=>
  I (decide (0≤v2)))
  (cond (decide (a1=112))
   (qa (ov a0 a2) fun v5=>
   I (decide (0≤v5)))
   (cond (decide (a1=117))
    (qa (f76 a0 a2) fun v8=>
    I (decide (0≤v8)))
    (I E3)))
theorem jw8 {a0 a1 a2 r}(h:Et a0 a1 a2=I r):qc pr (X pr) 167 [aR a0,.int .i32 a1,.str a2]=I (.bool r,En):=by
 unfold Et at h
 refine zi tX ?_
 repeat' first|(replace h:=qb h;obtain⟨d,g,h⟩:=h;with_reducible first|replace g:=Cj g|replace g:=wc g|replace g:=tz g|skip)|(replace h:=qd h;rcases h with⟨g,h⟩|⟨g,h⟩)
 all_goals (cases h<;>(simp only[go_sem,seval,tX, *];exact⟨_,rfl⟩))
def Eg (a0:aX):Option Int:=
 I ((a0.aW.getD []).length:Int)
theorem jyc {a0 r}(h:Eg a0=I r):qc pr (X pr) 162 [aP a0]=I (Iv r,En):=by
 unfold Eg at h
 have hr:((a0.aW.getD []).length:Int)=r:=I.inj h
 subst hr
 have this:∃hh,ql pr (X pr) 162 [aP a0] []=I (Lv a0.aW,En,hh):=by
  rw[qm (show pr.bM 162=I tY from rfl) (by simp)]
  simp only[go_sem,seval,tY]
  exact⟨_,rfl⟩
 obtain⟨hh,this⟩:=this
 exact zx rfl this (by first|rfl|simp only[go_sem,seval]) (by first|rfl|simp only[go_sem,seval])
def Ee (a0:au)(a1:aY):Option Int:=
 qa (ov a0 a1.product) fun v1=>
 qa (qq (a0.ae.getD []) v1) fun v3=>
 qa (Eg v3) fun v5=>
 I v5
theorem jst {a0 a1 r}(h:Ee a0 a1=I r):qc pr (X pr) 132 [aR a0,aU a1]=I (Iv r,En):=by
 unfold Ee at h
 refine zi tZ ?_
 repeat' first|(replace h:=qb h;obtain⟨d,g,h⟩:=h;with_reducible first|replace g:=wc g|replace g:=jyc g|skip)|(replace h:=qd h;rcases h with⟨g,h⟩|⟨g,h⟩)
 all_goals (cases h<;>(simp only[go_sem,seval,tZ,jh, *];exact⟨_,rfl⟩))
def pQ (a0:au)(a1:aY):Option bY:=
 qa (ov a0 a1.product) fun v1=>
 qa (qq (a0.ae.getD []) v1) fun v3=>
 qa (qq (v3.aW.getD []) (qe .i64 (a1.version-1))) fun v5=>
 I v5
theorem N6 {a0 a1 r}(h:pQ a0 a1=I r):qc pr (X pr) 126 [aR a0,aU a1]=I (aD r,En):=by
 unfold pQ at h
 refine zi ua ?_
 repeat' first|(replace h:=qb h;obtain⟨d,g,h⟩:=h;with_reducible first|replace g:=wc g|skip)|(replace h:=qd h;rcases h with⟨g,h⟩|⟨g,h⟩)
 all_goals (cases h<;>(simp only[go_sem,seval,ua,jh, *];exact⟨_,rfl⟩))
def Bj (a0:aY)(a1:jf)(s0:Int×(List UInt8)×Int×Int):Option ((Int×(List UInt8)×Int×Int)⊕((Int×(List UInt8)×Int×Int))):=
 cond (decide (s0.1<((a0.results.getD []).length:Int)))
  (qa (qq (a0.results.getD []) s0.1) fun v12=>
  cond (decide (v12.k=a1.k))
   (cond (decide (v12.a=a0.version))
    (I (.inl (qe .i64 (s0.1+1),v12.k,v12.a,v12.b)))
    (I (.inl (qe .i64 (s0.1+1),s0.2.1,s0.2.2.1,s0.2.2.2))))
   (I (.inl (qe .i64 (s0.1+1),s0.2.1,s0.2.2.1,s0.2.2.2))))
  (I (.inr (s0.1,s0.2.1,s0.2.2.1,s0.2.2.2)))
def PF (a0:aY)(a1:jf)(s0:Int×(List UInt8)×Int×Int):bf:=⟨[(2,.ah (aU a0),En),(3,.ah (aT a1),En),(5,.ptr 0 0,En),(10,sl 3 q9 a0.results,En),(11,Lv a0.results,En),(12,Iv s0.1,En)],[.cells [(.str s0.2.1,En),(Iv s0.2.2.1,En),(Iv s0.2.2.2,En)]]⟩
def PG (a0:aY)(a1:jf)(d:(Int×(List UInt8)×Int×Int)):jg×bf:=(.exit 0,⟨[(2,.ah (aU a0),En),(3,.ah (aT a1),En),(5,.ptr 0 0,En),(10,sl 3 q9 a0.results,En),(11,Lv a0.results,En),(12,Iv d.1,En),(13,.bool En,En)],[.cells [(.str d.2.1,En),(Iv d.2.2.1,En),(Iv d.2.2.2,En)]]⟩)
theorem juk (a0:aY)(a1:jf)(s0:Int×(List UInt8)×Int×Int)(r)(h:Bj a0 a1 s0=I r):jz pr PH (PF a0 a1) (PG a0 a1) s0 r:=by
 unfold Bj at h
 repeat' first|(replace h:=qb h;obtain⟨d,g,h⟩:=h)|(replace h:=qd h;rcases h with⟨g,h⟩|⟨g,h⟩)
 all_goals (cases h<;>((first|refine qz ?_|refine ju ?_);simp only[go_sem,seval,PH,PF,jh,PG, *]<;>rfl))
theorem jwy (a0:aY)(a1:jf){s0 d}(h:bz (Bj a0 a1) s0=I d):X pr (.loop PH) (PF a0 a1 s0)=I (PG a0 a1 d):=zn (juk a0 a1) h
def Hq (a0:aY)(a1:jf):Option Bool:=
 qa (bz (Bj a0 a1) (0,[],(-1),0)) fun d16=>
 cond (decide (d16.2.1=[])&&decide (d16.2.2.1=(-1))&&decide (d16.2.2.2=0))
  (I En)
  (cond (decide (a1.a≤d16.2.2.2))
   (I (decide (d16.2.2.2≤a1.b)))
   (I En))
theorem zc7 {a0 a1 r}(h:Hq a0 a1=I r):qc pr (X pr) 128 [aU a0,aT a1]=I (.bool r,En):=by
 unfold Hq at h
 refine zi ub ?_
 repeat' first|(replace h:=qb h;obtain⟨d,g,h⟩:=h;with_reducible first|(replace g:=jwy a0 a1 g;dsimp only[PF,PG,zm]at g h)|skip)|(replace h:=qd h;rcases h with⟨g,h⟩|⟨g,h⟩)
 all_goals (cases h<;>(simp only[go_sem,seval,ub, *];exact⟨_,rfl⟩))
def Hv (a0:jf)(a1:aY):Option Bool:=
 qa (Hq a1 a0) fun v1=>
 I (!v1)
theorem ziq (hp:qh){a0 a1 r}(h:Hv a0 a1=I r):ql pr (X pr) 127 [aT a0,.ah (aU a1)] hp=I (.bool r,En,hp):=by
 unfold Hv at h
 obtain⟨v1,h2,h⟩:=qb h
 have jD:qc pr (X pr) 128 [aU a1,aT a0]=I (.bool v1,En):=zc7 h2
 have hr:(!v1)=r:=I.inj h
 subst hr
 rw[qm (show pr.bM 127=I uc from rfl) (by simp)]
 simp only[go_sem,seval,uc,jD]<;>rfl
def Hu (a0:Option (List jf))(ai:aY)(s0:(Option (List jf))×Int×Bool):Option (((Option (List jf))×Int×Bool)⊕(((Option (List jf))×Bool×Int))):=
 cond (decide (s0.2.1<((a0.getD []).length:Int)))
  (qa (qq (a0.getD []) s0.2.1) fun v20=>
  qa (Hv v20 ai) fun v22=>
  cond v22
   (cond s0.2.2
    (qa (bH s0.1 [v20]) fun v26=>
    I (.inl (v26,qe .i64 (s0.2.1+1),E3)))
    (cond s0.1.isNone
     (qa (bH s0.1 [v20]) fun fb=>
     I (.inl (fb,qe .i64 (s0.2.1+1),E3)))
     (Ga)))
   (I (.inl (s0.1,qe .i64 (s0.2.1+1),s0.2.2))))
  (I (.inr (s0.1,s0.2.2,s0.2.1)))
def PI (a0:Option (List jf))(ai:aY)(s0:(Option (List jf))×Int×Bool):bf:=⟨[(1,.fn (.func 127) [] [.ah (aU ai)],En),(5,sl 3 q9 s0.1,s0.2.2),(8,sl 3 q9 a0,En),(9,Lv a0,En),(10,Iv s0.2.1,En)],[]⟩
def PJ (a0:Option (List jf))(ai:aY)(d:((Option (List jf))×Bool×Int)):jg×bf:=(.exit 0,⟨[(1,.fn (.func 127) [] [.ah (aU ai)],En),(5,sl 3 q9 d.1,d.2.1),(8,sl 3 q9 a0,En),(9,Lv a0,En),(10,Iv d.2.2,En),(11,.bool En,En)],[]⟩)
theorem jub (a0:Option (List jf))(ai:aY)(s0:(Option (List jf))×Int×Bool)(r)(h:Hu a0 ai s0=I r):jz pr PK (PI a0 ai) (PJ a0 ai) s0 r:=by
 unfold Hu at h
 repeat' first|(replace h:=qb h;obtain⟨d,g,h⟩:=h;with_reducible first|replace g:=ziq [] g|replace g:=D9 g|skip)|(replace h:=qd h;rcases h with⟨g,h⟩|⟨g,h⟩)
 all_goals (cases h<;>((first|refine qz ?_|refine ju ?_);simp only[go_sem,seval,PK,PI,jh,PJ, *]<;>rfl))
theorem jsl (a0:Option (List jf))(ai:aY){s0 d}(h:bz (Hu a0 ai) s0=I d):X pr (.loop PK) (PI a0 ai s0)=I (PJ a0 ai d):=zn (jub a0 ai) h
def Ht (a0:Option (List jf))(ai:aY):Option ((Option (List jf))×Bool):=
 qa (bz (Hu a0 ai) (Ga,0,En)) fun d31=>
 I (d31.1,d31.2.1)
theorem zgg {a0 ai r}(h:Ht a0 ai=I r):qc pr (X pr) 125 [sl 3 q9 a0,.fn (.func 127) [] [.ah (aU ai)]]=I (sl 3 q9 r.1,r.2):=by
 unfold Ht at h
 refine y5 ud ?_
 repeat' first|(replace h:=qb h;obtain⟨d,g,h⟩:=h;with_reducible first|(replace g:=jsl a0 ai g;dsimp only[PI,PJ,zm]at g h)|skip)|(replace h:=qd h;rcases h with⟨g,h⟩|⟨g,h⟩)
 all_goals (cases h<;>(simp only[go_sem,seval,ud, *];exact⟨_,rfl⟩))
def Mh (a0:jf):Option (List UInt8):=
 I a0.k
theorem zgl (hp:qh){a0 r}(h:Mh a0=I r):ql pr (X pr) 130 [aT a0] hp=I (.str r,En,hp):=by
 unfold Mh at h
 have hr:a0.k=r:=I.inj h
 subst hr
 rw[qm (show pr.bM 130=I uf from rfl) (by simp)]
 simp only[go_sem,seval,uf]<;>rfl
def Hw (a0:Option (List jf))(s0:(Option (List (List UInt8)))×Int×Bool):Option (((Option (List (List UInt8)))×Int×Bool)⊕(((Option (List (List UInt8)))×Bool×Int))):=
 cond (decide (s0.2.1<((a0.getD []).length:Int)))
  (qa (qq (a0.getD []) s0.2.1) fun jE=>
  qa (Mh jE) fun v20=>
  cond s0.2.2
   (qa (bH s0.1 [v20]) fun v23=>
   I (.inl (v23,qe .i64 (s0.2.1+1),E3)))
   (cond s0.1.isNone
    (qa (bH s0.1 [v20]) fun v26=>
    I (.inl (v26,qe .i64 (s0.2.1+1),E3)))
    (Ga)))
  (I (.inr (s0.1,s0.2.2,s0.2.1)))
def PL (a0:Option (List jf))(s0:(Option (List (List UInt8)))×Int×Bool):bf:=⟨[(1,.fn (.func 130) [] [],En),(5,sl 1 jd s0.1,s0.2.2),(8,sl 3 q9 a0,En),(9,Lv a0,En),(10,Iv s0.2.1,En)],[]⟩
def PN (a0:Option (List jf))(d:((Option (List (List UInt8)))×Bool×Int)):jg×bf:=(.exit 0,⟨[(1,.fn (.func 130) [] [],En),(5,sl 1 jd d.1,d.2.1),(8,sl 3 q9 a0,En),(9,Lv a0,En),(10,Iv d.2.2,En),(11,.bool En,En)],[]⟩)
theorem jwr (a0:Option (List jf))(s0:(Option (List (List UInt8)))×Int×Bool)(r)(h:Hw a0 s0=I r):jz pr PO (PL a0) (PN a0) s0 r:=by
 unfold Hw at h
 repeat' first|(replace h:=qb h;obtain⟨d,g,h⟩:=h;with_reducible first|replace g:=zgl [] g|replace g:=He g|skip)|(replace h:=qd h;rcases h with⟨g,h⟩|⟨g,h⟩)
 all_goals (cases h<;>((first|refine qz ?_|refine ju ?_);simp only[go_sem,seval,PO,PL,jh,PN, *]<;>rfl))
theorem jsn (a0:Option (List jf)){s0 d}(h:bz (Hw a0) s0=I d):X pr (.loop PO) (PL a0 s0)=I (PN a0 d):=zn (jwr a0) h
def f129 (a0:Option (List jf)):Option ((Option (List (List UInt8)))×Bool):=
 qa (bz (Hw a0) (Ga,0,En)) fun d28=>
 I (d28.1,d28.2.1)
theorem zc3 {a0 r}(h:f129 a0=I r):qc pr (X pr) 129 [sl 3 q9 a0,.fn (.func 130) [] []]=I (sl 1 jd r.1,r.2):=by
 unfold f129 at h
 refine y5 ug ?_
 repeat' first|(replace h:=qb h;obtain⟨d,g,h⟩:=h;with_reducible first|(replace g:=jsn a0 g;dsimp only[PL,PN,zm]at g h)|skip)|(replace h:=qd h;rcases h with⟨g,h⟩|⟨g,h⟩)
 all_goals (cases h<;>(simp only[go_sem,seval,ug, *];exact⟨_,rfl⟩))
def f78 (a0:au)(a1:aY):Option ((Option (List (List UInt8)))×Bool):=
 qa (pQ a0 a1) fun v1=>
 qa (Ht v1.aH a1) fun v3=>
 qa (f129 v3.1) fun v5=>
 I (v5.1,v5.2)
theorem W78 {a0 a1 r}(h:f78 a0 a1=I r):qc pr (X pr) 78 [aR a0,aU a1]=I (sl 1 jd r.1,r.2):=by
 unfold f78 at h
 refine y5 J0 ?_
 repeat' first|(replace h:=qb h;obtain⟨d,g,h⟩:=h;with_reducible first|replace g:=N6 g|replace g:=zgg g|replace g:=zc3 g|skip)|(replace h:=qd h;rcases h with⟨g,h⟩|⟨g,h⟩)
 all_goals (cases h<;>(simp only[go_sem,seval,J0, *];exact⟨_,rfl⟩))
def MG (a0:br):Option (List UInt8):=
 I a0.k
theorem zh6 (hp:qh){a0 r}(h:MG a0=I r):ql pr (X pr) 122 [aN a0] hp=I (.str r,En,hp):=by
 unfold MG at h
 have hr:a0.k=r:=I.inj h
 subst hr
 rw[qm (show pr.bM 122=I uh from rfl) (by simp)]
 simp only[go_sem,seval,uh]<;>rfl
def Iz (a0:Option (List br))(s0:(Option (List (List UInt8)))×Int×Bool):Option (((Option (List (List UInt8)))×Int×Bool)⊕(((Option (List (List UInt8)))×Bool×Int))):=
 cond (decide (s0.2.1<((a0.getD []).length:Int)))
  (qa (qq (a0.getD []) s0.2.1) fun jE=>
  qa (MG jE) fun v20=>
  cond s0.2.2
   (qa (bH s0.1 [v20]) fun v23=>
   I (.inl (v23,qe .i64 (s0.2.1+1),E3)))
   (cond s0.1.isNone
    (qa (bH s0.1 [v20]) fun v26=>
    I (.inl (v26,qe .i64 (s0.2.1+1),E3)))
    (Ga)))
  (I (.inr (s0.1,s0.2.2,s0.2.1)))
def PP (a0:Option (List br))(s0:(Option (List (List UInt8)))×Int×Bool):bf:=⟨[(1,.fn (.func 122) [] [],En),(5,sl 1 jd s0.1,s0.2.2),(8,sl 2 bm a0,En),(9,Lv a0,En),(10,Iv s0.2.1,En)],[]⟩
def PQ (a0:Option (List br))(d:((Option (List (List UInt8)))×Bool×Int)):jg×bf:=(.exit 0,⟨[(1,.fn (.func 122) [] [],En),(5,sl 1 jd d.1,d.2.1),(8,sl 2 bm a0,En),(9,Lv a0,En),(10,Iv d.2.2,En),(11,.bool En,En)],[]⟩)
theorem jxc (a0:Option (List br))(s0:(Option (List (List UInt8)))×Int×Bool)(r)(h:Iz a0 s0=I r):jz pr PR (PP a0) (PQ a0) s0 r:=by
 unfold Iz at h
 repeat' first|(replace h:=qb h;obtain⟨d,g,h⟩:=h;with_reducible first|replace g:=zh6 [] g|replace g:=He g|skip)|(replace h:=qd h;rcases h with⟨g,h⟩|⟨g,h⟩)
 all_goals (cases h<;>((first|refine qz ?_|refine ju ?_);simp only[go_sem,seval,PR,PP,jh,PQ, *]<;>rfl))
theorem jtj (a0:Option (List br)){s0 d}(h:bz (Iz a0) s0=I d):X pr (.loop PR) (PP a0 s0)=I (PQ a0 d):=zn (jxc a0) h
def MF (a0:Option (List br)):Option ((Option (List (List UInt8)))×Bool):=
 qa (bz (Iz a0) (Ga,0,En)) fun d28=>
 I (d28.1,d28.2.1)
theorem ze1 {a0 r}(h:MF a0=I r):qc pr (X pr) 121 [sl 2 bm a0,.fn (.func 122) [] []]=I (sl 1 jd r.1,r.2):=by
 unfold MF at h
 refine y5 ui ?_
 repeat' first|(replace h:=qb h;obtain⟨d,g,h⟩:=h;with_reducible first|(replace g:=jtj a0 g;dsimp only[PP,PQ,zm]at g h)|skip)|(replace h:=qd h;rcases h with⟨g,h⟩|⟨g,h⟩)
 all_goals (cases h<;>(simp only[go_sem,seval,ui, *];exact⟨_,rfl⟩))
def f67 (a0:aY):Option ((Option (List (List UInt8)))×Bool):=
 qa (MF a0.uses) fun v1=>
 I (v1.1,v1.2)
theorem Yk {a0 r}(h:f67 a0=I r):qc pr (X pr) 67 [aU a0]=I (sl 1 jd r.1,r.2):=by
 unfold f67 at h
 refine y5 J1 ?_
 repeat' first|(replace h:=qb h;obtain⟨d,g,h⟩:=h;with_reducible first|replace g:=ze1 g|skip)|(replace h:=qd h;rcases h with⟨g,h⟩|⟨g,h⟩)
 all_goals (cases h<;>(simp only[go_sem,seval,J1, *];exact⟨_,rfl⟩))
def f73 (a0:aY):Option (List UInt8):=
 I a0.name
theorem W73 (hp:qh){a0 r}(h:f73 a0=I r):ql pr (X pr) 73 [aU a0] hp=I (.str r,En,hp):=by
 unfold f73 at h
 have hr:a0.name=r:=I.inj h
 subst hr
 rw[qm (show pr.bM 73=I J2 from rfl) (by simp)]
 simp only[go_sem,seval,J2]<;>rfl
def IQ (a0:Option (List aY))(s0:(Option (List (List UInt8)))×Int×Bool):Option (((Option (List (List UInt8)))×Int×Bool)⊕(((Option (List (List UInt8)))×Bool×Int))):=
 cond (decide (s0.2.1<((a0.getD []).length:Int)))
  (qa (qq (a0.getD []) s0.2.1) fun jE=>
  qa (f73 jE) fun v20=>
  cond s0.2.2
   (qa (bH s0.1 [v20]) fun v23=>
   I (.inl (v23,qe .i64 (s0.2.1+1),E3)))
   (cond s0.1.isNone
    (qa (bH s0.1 [v20]) fun v26=>
    I (.inl (v26,qe .i64 (s0.2.1+1),E3)))
    (Ga)))
  (I (.inr (s0.1,s0.2.2,s0.2.1)))
def PS (a0:Option (List aY))(s0:(Option (List (List UInt8)))×Int×Bool):bf:=⟨[(1,.fn (.func 73) [] [],En),(5,sl 1 jd s0.1,s0.2.2),(8,sl 8 bj a0,En),(9,Lv a0,En),(10,Iv s0.2.1,En)],[]⟩
def PT (a0:Option (List aY))(d:((Option (List (List UInt8)))×Bool×Int)):jg×bf:=(.exit 0,⟨[(1,.fn (.func 73) [] [],En),(5,sl 1 jd d.1,d.2.1),(8,sl 8 bj a0,En),(9,Lv a0,En),(10,Iv d.2.2,En),(11,.bool En,En)],[]⟩)
theorem j2v (a0:Option (List aY))(s0:(Option (List (List UInt8)))×Int×Bool)(r)(h:IQ a0 s0=I r):jz pr PU (PS a0) (PT a0) s0 r:=by
 unfold IQ at h
 repeat' first|(replace h:=qb h;obtain⟨d,g,h⟩:=h;with_reducible first|replace g:=W73 [] g|replace g:=He g|skip)|(replace h:=qd h;rcases h with⟨g,h⟩|⟨g,h⟩)
 all_goals (cases h<;>((first|refine qz ?_|refine ju ?_);simp only[go_sem,seval,PU,PS,jh,PT, *]<;>rfl))
theorem j2e (a0:Option (List aY)){s0 d}(h:bz (IQ a0) s0=I d):X pr (.loop PU) (PS a0 s0)=I (PT a0 d):=zn (j2v a0) h
def f71 (a0:Option (List aY)):Option ((Option (List (List UInt8)))×Bool):=
 qa (bz (IQ a0) (Ga,0,En)) fun d28=>
 I (d28.1,d28.2.1)
theorem W71 {a0 r}(h:f71 a0=I r):qc pr (X pr) 71 [sl 8 bj a0,.fn (.func 73) [] []]=I (sl 1 jd r.1,r.2):=by
 unfold f71 at h
 refine y5 J3 ?_
 repeat' first|(replace h:=qb h;obtain⟨d,g,h⟩:=h;with_reducible first|(replace g:=j2e a0 g;dsimp only[PS,PT,zm]at g h)|skip)|(replace h:=qd h;rcases h with⟨g,h⟩|⟨g,h⟩)
 all_goals (cases h<;>(simp only[go_sem,seval,J3, *];exact⟨_,rfl⟩))
end Go.Z
namespace Go.Z
open Go Go.Abs Go.W
def f268 (a0:Option (List ja)):Option ((Option (List ja))×Bool):=
 cond a0.isNone
  (I (Ga,En))
  (qa (bH (I []) (a0.getD [])) fun v2=>
  I (v2,E3))
theorem zhu {a0 r}(h:f268 a0=I r):qc pr (X pr) 268 [sl 5 jb a0]=I (sl 5 jb r.1,r.2):=by
 unfold f268 at h
 refine y5 uj ?_
 repeat' first|(replace h:=qb h;obtain⟨d,g,h⟩:=h)|(replace h:=qd h;rcases h with⟨g,h⟩|⟨g,h⟩)
 all_goals (cases h<;>(simp only[go_sem,seval,uj,kx, *];exact⟨_,rfl⟩))
def Ys (a0:Option (List aX)):Option ((Option (List aX))×Bool):=
 cond a0.isNone
  (I (Ga,En))
  (qa (bH (I []) (a0.getD [])) fun v2=>
  I (v2,E3))
theorem zbh {a0 r}(h:Ys a0=I r):qc pr (X pr) 269 [sl 4 qu a0]=I (sl 4 qu r.1,r.2):=by
 unfold Ys at h
 refine y5 uk ?_
 repeat' first|(replace h:=qb h;obtain⟨d,g,h⟩:=h)|(replace h:=qd h;rcases h with⟨g,h⟩|⟨g,h⟩)
 all_goals (cases h<;>(simp only[go_sem,seval,uk,kx, *];exact⟨_,rfl⟩))
def Yt (a0:Option (List aY)):Option ((Option (List aY))×Bool):=
 cond a0.isNone
  (I (Ga,En))
  (qa (bH (I []) (a0.getD [])) fun v2=>
  I (v2,E3))
theorem zf8 {a0 r}(h:Yt a0=I r):qc pr (X pr) 281 [sl 8 bj a0]=I (sl 8 bj r.1,r.2):=by
 unfold Yt at h
 refine y5 ul ?_
 repeat' first|(replace h:=qb h;obtain⟨d,g,h⟩:=h)|(replace h:=qd h;rcases h with⟨g,h⟩|⟨g,h⟩)
 all_goals (cases h<;>(simp only[go_sem,seval,ul,kx, *];exact⟨_,rfl⟩))
def Yu (a0:Option (List bY)):Option ((Option (List bY))×Bool):=
 cond a0.isNone
  (I (Ga,En))
  (qa (bH (I []) (a0.getD [])) fun v2=>
  I (v2,E3))
theorem zir {a0 r}(h:Yu a0=I r):qc pr (X pr) 278 [sl 2 yd a0]=I (sl 2 yd r.1,r.2):=by
 unfold Yu at h
 refine y5 um ?_
 repeat' first|(replace h:=qb h;obtain⟨d,g,h⟩:=h)|(replace h:=qd h;rcases h with⟨g,h⟩|⟨g,h⟩)
 all_goals (cases h<;>(simp only[go_sem,seval,um,kx, *];exact⟨_,rfl⟩))
def H4 (a0:Option (List br)):Option ((Option (List br))×Bool):=
 cond a0.isNone
  (I (Ga,En))
  (qa (bH (I []) (a0.getD [])) fun v2=>
  I (v2,E3))
theorem jsu {a0 r}(h:H4 a0=I r):qc pr (X pr) 279 [sl 2 bm a0]=I (sl 2 bm r.1,r.2):=by
 unfold H4 at h
 refine y5 uo ?_
 repeat' first|(replace h:=qb h;obtain⟨d,g,h⟩:=h)|(replace h:=qd h;rcases h with⟨g,h⟩|⟨g,h⟩)
 all_goals (cases h<;>(simp only[go_sem,seval,uo,kx, *];exact⟨_,rfl⟩))
def H5 (a0:Option (List jf)):Option ((Option (List jf))×Bool):=
 cond a0.isNone
  (I (Ga,En))
  (qa (bH (I []) (a0.getD [])) fun v2=>
  I (v2,E3))
theorem jxf {a0 r}(h:H5 a0=I r):qc pr (X pr) 280 [sl 3 q9 a0]=I (sl 3 q9 r.1,r.2):=by
 unfold H5 at h
 refine y5 uq ?_
 repeat' first|(replace h:=qb h;obtain⟨d,g,h⟩:=h)|(replace h:=qd h;rcases h with⟨g,h⟩|⟨g,h⟩)
 all_goals (cases h<;>(simp only[go_sem,seval,uq,kx, *];exact⟨_,rfl⟩))
def f285 (a0:Option (List jf)):Option ((Option (List jf))×Bool):=
 cond a0.isNone
  (I (Ga,En))
  (qa (bH (I []) (a0.getD [])) fun v2=>
  I (v2,E3))
theorem zdr {a0 r}(h:f285 a0=I r):qc pr (X pr) 285 [sl 3 q9 a0]=I (sl 3 q9 r.1,r.2):=by
 unfold f285 at h
 refine y5 ur ?_
 repeat' first|(replace h:=qb h;obtain⟨d,g,h⟩:=h)|(replace h:=qd h;rcases h with⟨g,h⟩|⟨g,h⟩)
 all_goals (cases h<;>(simp only[go_sem,seval,ur,kx, *];exact⟨_,rfl⟩))
def Yv (a0:Option (List br)):Option ((Option (List br))×Bool):=
 cond a0.isNone
  (I (Ga,En))
  (qa (bH (I []) (a0.getD [])) fun v2=>
  I (v2,E3))
theorem zi3 {a0 r}(h:Yv a0=I r):qc pr (X pr) 300 [sl 2 bm a0]=I (sl 2 bm r.1,r.2):=by
 unfold Yv at h
 refine y5 uv ?_
 repeat' first|(replace h:=qb h;obtain⟨d,g,h⟩:=h)|(replace h:=qd h;rcases h with⟨g,h⟩|⟨g,h⟩)
 all_goals (cases h<;>(simp only[go_sem,seval,uv,kx, *];exact⟨_,rfl⟩))
def Ml (a0:Option (List ja))(a1:ja):Option (Option (List ja)):=
 qa (f268 a0) fun v1=>
 cond v1.2
  (qa (bH v1.1 [a1]) fun v4=>
  I v4)
  (cond v1.1.isNone
   (qa (bH v1.1 [a1]) fun v7=>
   I v7)
   (Ga))
theorem ziw {a0 a1 r}(h:Ml a0 a1=I r):qc pr (X pr) 209 [sl 5 jb a0,aL a1]=I (sl 5 jb r,E3):=by
 unfold Ml at h
 refine y5 uw ?_
 repeat' first|(replace h:=qb h;obtain⟨d,g,h⟩:=h;with_reducible first|replace g:=zhu g|replace g:=Tx g|skip)|(replace h:=qd h;rcases h with⟨g,h⟩|⟨g,h⟩)
 all_goals (cases h<;>(simp only[go_sem,seval,uw, *];exact⟨_,rfl⟩))
def Mm (a0:Option (List aX))(a1:aX):Option (Option (List aX)):=
 qa (Ys a0) fun v1=>
 cond v1.2
  (qa (bH v1.1 [a1]) fun v4=>
  I v4)
  (cond v1.1.isNone
   (qa (bH v1.1 [a1]) fun v7=>
   I v7)
   (Ga))
theorem zcm {a0 a1 r}(h:Mm a0 a1=I r):qc pr (X pr) 210 [sl 4 qu a0,aP a1]=I (sl 4 qu r,E3):=by
 unfold Mm at h
 refine y5 ux ?_
 repeat' first|(replace h:=qb h;obtain⟨d,g,h⟩:=h;with_reducible first|replace g:=zbh g|replace g:=q3m g|skip)|(replace h:=qd h;rcases h with⟨g,h⟩|⟨g,h⟩)
 all_goals (cases h<;>(simp only[go_sem,seval,ux, *];exact⟨_,rfl⟩))
def f225 (a0:Option (List aY))(a1:aY):Option (Option (List aY)):=
 qa (Yt a0) fun v1=>
 cond v1.2
  (qa (bH v1.1 [a1]) fun v4=>
  I v4)
  (cond v1.1.isNone
   (qa (bH v1.1 [a1]) fun v7=>
   I v7)
   (Ga))
theorem zby {a0 a1 r}(h:f225 a0 a1=I r):qc pr (X pr) 225 [sl 8 bj a0,aU a1]=I (sl 8 bj r,E3):=by
 unfold f225 at h
 refine y5 uy ?_
 repeat' first|(replace h:=qb h;obtain⟨d,g,h⟩:=h;with_reducible first|replace g:=zf8 g|replace g:=L6 g|skip)|(replace h:=qd h;rcases h with⟨g,h⟩|⟨g,h⟩)
 all_goals (cases h<;>(simp only[go_sem,seval,uy, *];exact⟨_,rfl⟩))
def Mn (a0:Option (List bY))(a1:bY):Option (Option (List bY)):=
 qa (Yu a0) fun v1=>
 cond v1.2
  (qa (bH v1.1 [a1]) fun v4=>
  I v4)
  (cond v1.1.isNone
   (qa (bH v1.1 [a1]) fun v7=>
   I v7)
   (Ga))
theorem zjt {a0 a1 r}(h:Mn a0 a1=I r):qc pr (X pr) 223 [sl 2 yd a0,aD a1]=I (sl 2 yd r,E3):=by
 unfold Mn at h
 refine y5 uz ?_
 repeat' first|(replace h:=qb h;obtain⟨d,g,h⟩:=h;with_reducible first|replace g:=zir g|replace g:=q8t g|skip)|(replace h:=qd h;rcases h with⟨g,h⟩|⟨g,h⟩)
 all_goals (cases h<;>(simp only[go_sem,seval,uz, *];exact⟨_,rfl⟩))
def Mp (a0:Option (List br))(a1:br):Option (Option (List br)):=
 qa (H4 a0) fun v1=>
 cond v1.2
  (qa (bH v1.1 [a1]) fun v4=>
  I v4)
  (cond v1.1.isNone
   (qa (bH v1.1 [a1]) fun v7=>
   I v7)
   (Ga))
theorem zcl {a0 a1 r}(h:Mp a0 a1=I r):qc pr (X pr) 273 [sl 2 bm a0,aN a1]=I (sl 2 bm r,E3):=by
 unfold Mp at h
 refine y5 uA ?_
 repeat' first|(replace h:=qb h;obtain⟨d,g,h⟩:=h;with_reducible first|replace g:=jsu g|replace g:=Bf g|skip)|(replace h:=qd h;rcases h with⟨g,h⟩|⟨g,h⟩)
 all_goals (cases h<;>(simp only[go_sem,seval,uA, *];exact⟨_,rfl⟩))
def f277 (a0:Option (List jf))(a1:jf):Option (Option (List jf)):=
 qa (H5 a0) fun v1=>
 cond v1.2
  (qa (bH v1.1 [a1]) fun v4=>
  I v4)
  (cond v1.1.isNone
   (qa (bH v1.1 [a1]) fun v7=>
   I v7)
   (Ga))
theorem zgn {a0 a1 r}(h:f277 a0 a1=I r):qc pr (X pr) 277 [sl 3 q9 a0,aT a1]=I (sl 3 q9 r,E3):=by
 unfold f277 at h
 refine y5 uC ?_
 repeat' first|(replace h:=qb h;obtain⟨d,g,h⟩:=h;with_reducible first|replace g:=jxf g|replace g:=D9 g|skip)|(replace h:=qd h;rcases h with⟨g,h⟩|⟨g,h⟩)
 all_goals (cases h<;>(simp only[go_sem,seval,uC, *];exact⟨_,rfl⟩))
def f284 (a0:Option (List br))(a1:br):Option (Option (List br)):=
 qa (Yv a0) fun v1=>
 cond v1.2
  (qa (bH v1.1 [a1]) fun v4=>
  I v4)
  (cond v1.1.isNone
   (qa (bH v1.1 [a1]) fun v7=>
   I v7)
   (Ga))
theorem zbl {a0 a1 r}(h:f284 a0 a1=I r):qc pr (X pr) 284 [sl 2 bm a0,aN a1]=I (sl 2 bm r,E3):=by
 unfold f284 at h
 refine y5 uD ?_
 repeat' first|(replace h:=qb h;obtain⟨d,g,h⟩:=h;with_reducible first|replace g:=zi3 g|replace g:=Bf g|skip)|(replace h:=qd h;rcases h with⟨g,h⟩|⟨g,h⟩)
 all_goals (cases h<;>(simp only[go_sem,seval,uD, *];exact⟨_,rfl⟩))
def Mq (a0:Option (List jf))(a1:jf):Option (Option (List jf)):=
 qa (f285 a0) fun v1=>
 cond v1.2
  (qa (bH v1.1 [a1]) fun v4=>
  I v4)
  (cond v1.1.isNone
   (qa (bH v1.1 [a1]) fun v7=>
   I v7)
   (Ga))
theorem zd6 {a0 a1 r}(h:Mq a0 a1=I r):qc pr (X pr) 236 [sl 3 q9 a0,aT a1]=I (sl 3 q9 r,E3):=by
 unfold Mq at h
 refine y5 uE ?_
 repeat' first|(replace h:=qb h;obtain⟨d,g,h⟩:=h;with_reducible first|replace g:=zdr g|replace g:=D9 g|skip)|(replace h:=qd h;rcases h with⟨g,h⟩|⟨g,h⟩)
 all_goals (cases h<;>(simp only[go_sem,seval,uE, *];exact⟨_,rfl⟩))
def f224 (a0:bY):Option bY:=
 qa (H4 a0.aM) fun v1=>
 qa (H5 a0.aH) fun v3=>
 I (⟨v1.1,v3.1⟩)
theorem zet {a0 r}(h:f224 a0=I r):qc pr (X pr) 224 [aD a0]=I (aD r,En):=by
 unfold f224 at h
 refine zi uF ?_
 repeat' first|(replace h:=qb h;obtain⟨d,g,h⟩:=h;with_reducible first|replace g:=jsu g|replace g:=jxf g|skip)|(replace h:=qd h;rcases h with⟨g,h⟩|⟨g,h⟩)
 all_goals (cases h<;>(simp only[go_sem,seval,uF, *];exact⟨_,rfl⟩))
end Go.Z
namespace Go.Z
open Go Go.Abs Go.W
def f89 (a0:List UInt8):Option rS:=
 cond (decide (a0=([108,111,116]:List UInt8)))
  (I (⟨2,2,E3⟩))
  (cond (decide (a0=([112,114,111,100,117,99,116]:List UInt8)))
   (I (⟨1,1,E3⟩))
   (cond (decide (a0=([105,115,115,117,101]:List UInt8)))
    (I (⟨1,1,E3⟩))
    (cond (decide (a0=([117,112,100,97,116,101]:List UInt8)))
     (I (⟨1,1,E3⟩))
     (cond (decide (a0=([104,111,108,100]:List UInt8)))
      (I (⟨1,1,E3⟩))
      (cond (decide (a0=([102,114,101,101]:List UInt8)))
       (I (⟨1,1,E3⟩))
       (cond (decide (a0=([115,104,105,112]:List UInt8)))
        (I (⟨1,1,E3⟩))
        (cond (decide (a0=([99,111,109,112,108,97,105,110]:List UInt8)))
         (I (⟨1,1,E3⟩))
         (cond (decide (a0=([110,101,101,100]:List UInt8)))
          (I (⟨2,2,E3⟩))
          (cond (decide (a0=([117,115,101]:List UInt8)))
           (I (⟨2,2,E3⟩))
           (cond (decide (a0=([109,101,97,115,117,114,101]:List UInt8)))
            (I (⟨2,2,E3⟩))
            (cond (decide (a0=([116,101,115,116]:List UInt8)))
             (I (⟨2,3,E3⟩))
             (cond (decide (a0=([98,117,105,108,100]:List UInt8)))
              (I (⟨2,1,E3⟩))
              (cond (decide (a0=([112,97,105,114]:List UInt8)))
               (I (⟨2,1,E3⟩))
               (cond (decide (a0=([117,110,100,111]:List UInt8)))
                (I (⟨0,0,E3⟩))
                (I (⟨0,0,En⟩))))))))))))))))
theorem W89 {a0 r}(h:f89 a0=I r):qc pr (X pr) 89 [.str a0]=I (.agg [Iv r.names,Iv r.values,.bool r.known],En):=by
 unfold f89 at h
 refine zi J4 ?_
 repeat' first|(replace h:=qd h;rcases h with⟨g,h⟩|⟨g,h⟩)
 all_goals (cases h<;>(simp only[go_sem,seval,J4, *];exact⟨_,rfl⟩))
def BF (a0:GEv)(v4:rS)(s0:Int):Option (Int⊕(Unit⊕Int)):=
 cond (decide (s0<v4.names))
  (qa (qq (a0.names.getD []) s0) fun v22=>
  qa (f90 v22) fun v24=>
  cond v24
   (I (.inl (qe .i64 (s0+1))))
   (I (.inr (.inl ()))))
  (I (.inr (.inr s0)))
def PV (a0:GEv)(v4:rS)(s0:Int):bf:=⟨[(1,.ah (aE a0),En),(3,.ah (.agg [Iv v4.names,Iv v4.values,.bool E3]),En),(4,Iv s0,En)],[]⟩
def PW (a0:GEv)(v4:rS):Unit⊕Int→jg×bf
 | .inl d=>(.ret,⟨[(2,Iv 8,En)],[]⟩)
 | .inr d=>(.exit 0,⟨[(1,.ah (aE a0),En),(3,.ah (.agg [Iv v4.names,Iv v4.values,.bool E3]),En),(4,Iv d,En),(32,.bool En,En)],[]⟩)
theorem j6c (a0:GEv)(v4:rS)(s0:Int)(r)(h:BF a0 v4 s0=I r):jz pr PX (PV a0 v4) (PW a0 v4) s0 r:=by
 unfold BF at h
 repeat' first|(replace h:=qb h;obtain⟨d,g,h⟩:=h;with_reducible first|replace g:=W90 g|skip)|(replace h:=qd h;rcases h with⟨g,h⟩|⟨g,h⟩)
 all_goals (cases h<;>((first|refine qz ?_|refine ju ?_);simp only[go_sem,seval,PX,PV,jh,PW, *]<;>rfl))
theorem j8u (a0:GEv)(v4:rS){s0 d}(h:bz (BF a0 v4) s0=I d):X pr (.loop PX) (PV a0 v4 s0)=I (PW a0 v4 d):=zn (j6c a0 v4) h
def BG (a0:GEv)(v4:rS)(s1:Int):Option (Int⊕(Unit⊕Int)):=
 cond (decide (s1<v4.values))
  (qa (qq (a0.values.getD []) s1) fun Ch=>
  qa (f88 Ch 0 999999999) fun v46=>
  cond v46
   (I (.inr (.inl ())))
   (I (.inl (qe .i64 (s1+1)))))
  (I (.inr (.inr s1)))
def PY (a0:GEv)(v4:rS)(s1:Int):bf:=⟨[(1,.ah (aE a0),En),(3,.ah (.agg [Iv v4.names,Iv v4.values,.bool E3]),En),(5,Iv s1,En)],[]⟩
def PZ (a0:GEv)(v4:rS):Unit⊕Int→jg×bf
 | .inl d=>(.ret,⟨[(2,Iv 3,En)],[]⟩)
 | .inr d=>(.exit 2,⟨[(1,.ah (aE a0),En),(3,.ah (.agg [Iv v4.names,Iv v4.values,.bool E3]),En),(5,Iv d,En),(45,.bool En,En)],[]⟩)
theorem j1l (a0:GEv)(v4:rS)(s1:Int)(r)(h:BG a0 v4 s1=I r):jz pr P0 (PY a0 v4) (PZ a0 v4) s1 r:=by
 unfold BG at h
 repeat' first|(replace h:=qb h;obtain⟨d,g,h⟩:=h;with_reducible first|replace g:=Yb g|skip)|(replace h:=qd h;rcases h with⟨g,h⟩|⟨g,h⟩)
 all_goals (cases h<;>((first|refine qz ?_|refine ju ?_);simp only[go_sem,seval,P0,PY,jh,PZ, *]<;>rfl))
theorem j5v (a0:GEv)(v4:rS){s1 d}(h:bz (BG a0 v4) s1=I d):X pr (.loop P0) (PY a0 v4 s1)=I (PZ a0 v4 d):=zn (j1l a0 v4) h
def f33 (a0:GEv):Option Int:=
 qa (f88 a0.number 1 1000) fun v1=>
 cond v1
  (I 3)
  (qa (f89 a0.kind) fun v4=>
  cond v4.known
   (cond (decide (((a0.names.getD []).length:Int)=v4.names))
    (cond (decide (((a0.values.getD []).length:Int)=v4.values))
     (qa (bz (BF a0 v4) 0) fun d27=>match d27 with
      | .inl d29=>
       I 8
      | .inr d30=>
       qa (bz (BG a0 v4) 0) fun d49=>match d49 with
        | .inl d51=>
         I 3
        | .inr d52=>
         cond (decide (a0.text=[]))
          (I 0)
          (I 1))
     (I 2))
    (I 2))
   (I 13))
theorem W33 {a0 r}(h:f33 a0=I r):qc pr (X pr) 33 [aE a0]=I (Iv r,En):=by
 unfold f33 at h
 refine zi P1 ?_
 repeat' first|(replace h:=qb h;obtain⟨d,g,h⟩:=h;with_reducible first|replace g:=Yb g|replace g:=W89 g|(replace g:=j8u a0 _ g;rcases d with d|d<;>dsimp only[PV,PW,zm]at g h)|(replace g:=j5v a0 _ g;rcases d with d|d<;>dsimp only[PY,PZ,zm]at g h)|skip)|(replace h:=qd h;rcases h with⟨g,h⟩|⟨g,h⟩)
 all_goals (cases h<;>(simp only[go_sem,seval,P1, *];exact⟨_,rfl⟩))
end Go.Z
end
