/- Chapter 10. -/
import Derived.Test.YtimdocpnkimlfaaGreatDoorCA
set_option linter.unusedVariables false
set_option linter.unusedSimpArgs false
set_option maxRecDepth 100000
set_option maxHeartbeats 4000000
noncomputable section
open Option renaming some→I,none→Ec
open Bool renaming false→Ea,true→Eb
namespace Go.Z
open Go Go.Abs Go.W
def f48 (a0:Bool)(a1:Int):Option Int:=
 cond a0
  (I a1)
  (I 0)
theorem Ja {a0 a1 r}(h:f48 a0 a1=I r):ae pr (X pr) 48 [.bool a0,Iv a1]=I (Iv r,Ea):=by
 unfold f48 at h
 refine ll FZ ?_
 repeat' first|(replace h:=qc h;rcases h with⟨g,h⟩|⟨g,h⟩)
 all_goals (cases h<;>(simp only[go_sem,seval,FZ, *];exact⟨_,rfl⟩))
def sw (a0:Option (List Int))(s0:Int):Option (Int⊕(Int⊕Int)):=
 cond (decide (s0<((a0.getD []).length:Int)))
  (qe (jn (a0.getD []) s0) fun v10=>
  cond (decide (v10=0))
   (I (.inl (qh .i64 (s0+1))))
   (I (.inr (.inl v10))))
  (I (.inr (.inr s0)))
def Jr (a0:Option (List Int))(s0:Int):aV:=⟨[(5,sl 1 qx a0,Ea),(6,Lv a0,Ea),(7,Iv s0,Ea)],[]⟩
def Js (a0:Option (List Int)):Int⊕Int→je×aV
 | .inl d=>(.ret,⟨[(2,Iv d,Ea)],[]⟩)
 | .inr d=>(.exit 0,⟨[(5,sl 1 qx a0,Ea),(6,Lv a0,Ea),(7,Iv d,Ea),(8,.bool Ea,Ea)],[]⟩)
theorem jqf (a0:Option (List Int))(s0:Int)(r)(h:sw a0 s0=I r):zd pr Jt (Jr a0) (Js a0) s0 r:=by
 unfold sw at h
 repeat' first|(replace h:=qa h;obtain⟨d,g,h⟩:=h)|(replace h:=qc h;rcases h with⟨g,h⟩|⟨g,h⟩)
 all_goals (cases h<;>((first|refine qy ?_|refine nk ?_);simp only[go_sem,seval,Jt,Jr,ri,Js, *]<;>rfl))
theorem jrg (a0:Option (List Int)){s0 d}(h:bq (sw a0) s0=I d):X pr (.loop Jt) (Jr a0 s0)=I (Js a0 d):=nT (jqf a0) h
def f46 (a0:Option (List Int)):Option Int:=
 qe (bq (sw a0) 0) fun d13=>match d13 with
  | .inl d15=>
   I d15
  | .inr d16=>
   I 0
theorem W46 {a0 r}(h:f46 a0=I r):ae pr (X pr) 46 [sl 1 qx a0]=I (Iv r,Ea):=by
 unfold f46 at h
 refine ll F0 ?_
 repeat' first|(replace h:=qa h;obtain⟨d,g,h⟩:=h;with_reducible first|(replace g:=jrg a0 g;rcases d with d|d<;>dsimp only[Jr,Js,np]at g h)|skip)|(replace h:=qc h;rcases h with⟨g,h⟩|⟨g,h⟩)
 all_goals (cases h<;>(simp only[go_sem,seval,F0, *];exact⟨_,rfl⟩))
def f60 (a0:Int)(a1:Int)(a2:Int):Option Int:=
 cond (decide (a0<a1))
  (qe (f48 Eb 3) fun v2=>
  I v2)
  (qe (f48 (decide (a2<a0)) 3) fun v4=>
  I v4)
theorem W60 {a0 a1 a2 r}(h:f60 a0 a1 a2=I r):ae pr (X pr) 60 [Iv a0,Iv a1,Iv a2]=I (Iv r,Ea):=by
 unfold f60 at h
 refine ll F1 ?_
 repeat' first|(replace h:=qa h;obtain⟨d,g,h⟩:=h;with_reducible first|replace g:=Ja g|skip)|(replace h:=qc h;rcases h with⟨g,h⟩|⟨g,h⟩)
 all_goals (cases h<;>(simp only[go_sem,seval,F1, *];exact⟨_,rfl⟩))
def f34 (a0:Bool)(a1:Int):Option Int:=
 cond a0
  (I a1)
  (I 0)
theorem W34 {a0 a1 r}(h:f34 a0 a1=I r):ae pr (X pr) 34 [.bool a0,Iv a1]=I (Iv r,Ea):=by
 unfold f34 at h
 refine ll F2 ?_
 repeat' first|(replace h:=qc h;rcases h with⟨g,h⟩|⟨g,h⟩)
 all_goals (cases h<;>(simp only[go_sem,seval,F2, *];exact⟨_,rfl⟩))
def tV (a0:List UInt8)(s0:Int):Option (Int⊕(Unit⊕Int)):=
 cond (decide (s0<(a0.length:Int)))
  (qe (jn a0 s0) fun v70=>
  cond (decide (65≤(v70.toNat:Int)))
   (cond (decide ((v70.toNat:Int)≤90))
    (cond (decide (48≤(v70.toNat:Int)))
     (cond (decide ((v70.toNat:Int)≤57))
      (I (.inl (qh .i64 (s0+1))))
      (I (.inl (qh .i64 (s0+1)))))
     (I (.inl (qh .i64 (s0+1)))))
    (cond (decide (97≤(v70.toNat:Int)))
     (cond (decide (48≤(v70.toNat:Int)))
      (cond (decide ((v70.toNat:Int)≤57))
       (cond (decide ((v70.toNat:Int)≤122))
        (I (.inl (qh .i64 (s0+1))))
        (cond (decide (s0=0))
         (I (.inr (.inl ())))
         (I (.inl (qh .i64 (s0+1))))))
       (cond (decide ((v70.toNat:Int)≤122))
        (I (.inl (qh .i64 (s0+1))))
        (cond (decide (s0=0))
         (I (.inr (.inl ())))
         (cond (decide ((v70.toNat:Int)=95))
          (I (.inl (qh .i64 (s0+1))))
          (I (.inr (.inl ())))))))
      (cond (decide ((v70.toNat:Int)≤122))
       (I (.inl (qh .i64 (s0+1))))
       (cond (decide (s0=0))
        (I (.inr (.inl ())))
        (cond (decide ((v70.toNat:Int)=95))
         (I (.inl (qh .i64 (s0+1))))
         (I (.inr (.inl ())))))))
     (cond (decide (48≤(v70.toNat:Int)))
      (cond (decide ((v70.toNat:Int)≤57))
       (cond (decide (s0=0))
        (I (.inr (.inl ())))
        (I (.inl (qh .i64 (s0+1)))))
       (cond (decide (s0=0))
        (I (.inr (.inl ())))
        (cond (decide ((v70.toNat:Int)=95))
         (I (.inl (qh .i64 (s0+1))))
         (I (.inr (.inl ()))))))
      (cond (decide (s0=0))
       (I (.inr (.inl ())))
       (cond (decide ((v70.toNat:Int)=95))
        (I (.inl (qh .i64 (s0+1))))
        (I (.inr (.inl ()))))))))
   (cond (decide (97≤(v70.toNat:Int)))
    (cond (decide (48≤(v70.toNat:Int)))
     (cond (decide ((v70.toNat:Int)≤57))
      (cond (decide ((v70.toNat:Int)≤122))
       (I (.inl (qh .i64 (s0+1))))
       (cond (decide (s0=0))
        (I (.inr (.inl ())))
        (I (.inl (qh .i64 (s0+1))))))
      (cond (decide ((v70.toNat:Int)≤122))
       (I (.inl (qh .i64 (s0+1))))
       (cond (decide (s0=0))
        (I (.inr (.inl ())))
        (cond (decide ((v70.toNat:Int)=95))
         (I (.inl (qh .i64 (s0+1))))
         (I (.inr (.inl ())))))))
     (cond (decide ((v70.toNat:Int)≤122))
      (I (.inl (qh .i64 (s0+1))))
      (cond (decide (s0=0))
       (I (.inr (.inl ())))
       (cond (decide ((v70.toNat:Int)=95))
        (I (.inl (qh .i64 (s0+1))))
        (I (.inr (.inl ())))))))
    (cond (decide (48≤(v70.toNat:Int)))
     (cond (decide ((v70.toNat:Int)≤57))
      (cond (decide (s0=0))
       (I (.inr (.inl ())))
       (I (.inl (qh .i64 (s0+1)))))
      (cond (decide (s0=0))
       (I (.inr (.inl ())))
       (cond (decide ((v70.toNat:Int)=95))
        (I (.inl (qh .i64 (s0+1))))
        (I (.inr (.inl ()))))))
     (cond (decide (s0=0))
      (I (.inr (.inl ())))
      (cond (decide ((v70.toNat:Int)=95))
       (I (.inl (qh .i64 (s0+1))))
       (I (.inr (.inl ()))))))))
  (I (.inr (.inr s0)))
def Ju (a0:List UInt8)(s0:Int):aV:=⟨[(0,.str a0,Ea),(3,Iv s0,Ea)],[]⟩
def Jv (a0:List UInt8):Unit⊕Int→je×aV
 | .inl d=>(.ret,⟨[(2,.bool Ea,Ea)],[]⟩)
 | .inr d=>(.exit 0,⟨[(0,.str a0,Ea),(3,Iv d,Ea),(17,.bool Ea,Ea)],[]⟩)
theorem jqn (a0:List UInt8)(s0:Int)(r)(h:tV a0 s0=I r):zd pr Jw (Ju a0) (Jv a0) s0 r:=by
 unfold tV at h
 repeat' first|(replace h:=qa h;obtain⟨d,g,h⟩:=h)|(replace h:=qc h;rcases h with⟨g,h⟩|⟨g,h⟩)
 all_goals (cases h<;>((first|refine qy ?_|refine nk ?_);simp only[go_sem,seval,Jw,Ju,q85,Jv, *]<;>rfl))
theorem jqw (a0:List UInt8){s0 d}(h:bq (tV a0) s0=I d):X pr (.loop Jw) (Ju a0 s0)=I (Jv a0 d):=nT (jqn a0) h
def f90 (a0:List UInt8):Option Bool:=
 cond (decide ((a0.length:Int)=0))
  (I Ea)
  (cond (decide (24<(a0.length:Int)))
   (I Ea)
   (qe (bq (tV a0) 0) fun d112=>match d112 with
    | .inl d114=>
     I Ea
    | .inr d115=>
     I Eb))
theorem W90 {a0 r}(h:f90 a0=I r):ae pr (X pr) 90 [.str a0]=I (.bool r,Ea):=by
 unfold f90 at h
 refine ll Jx ?_
 repeat' first|(replace h:=qa h;obtain⟨d,g,h⟩:=h;with_reducible first|(replace g:=jqw a0 g;rcases d with d|d<;>dsimp only[Ju,Jv,np]at g h)|skip)|(replace h:=qc h;rcases h with⟨g,h⟩|⟨g,h⟩)
 all_goals (cases h<;>(simp only[go_sem,seval,Jx, *];exact⟨_,rfl⟩))
def tW (a0:List UInt8):Option (Option (Nat)⊕(Nat⊕Nat)):=
 cond (decide (0<a0.length))
  (cond (decide (65≤((qf a0 0).1:Int)))
   (cond (decide (((qf a0 0).1:Int)≤90))
    (cond (decide (48≤((qf a0 0).1:Int)))
     (cond (decide (((qf a0 0).1:Int)≤57))
      (I (.inl (I (0+(qf a0 0).2))))
      (I (.inl (I (0+(qf a0 0).2)))))
     (I (.inl (I (0+(qf a0 0).2)))))
    (cond (decide (97≤((qf a0 0).1:Int)))
     (cond (decide (48≤((qf a0 0).1:Int)))
      (cond (decide (((qf a0 0).1:Int)≤57))
       (cond (decide (((qf a0 0).1:Int)≤122))
        (I (.inl (I (0+(qf a0 0).2))))
        (I (.inr (.inl (0+(qf a0 0).2)))))
       (cond (decide (((qf a0 0).1:Int)≤122))
        (I (.inl (I (0+(qf a0 0).2))))
        (I (.inr (.inl (0+(qf a0 0).2))))))
      (cond (decide (((qf a0 0).1:Int)≤122))
       (I (.inl (I (0+(qf a0 0).2))))
       (I (.inr (.inl (0+(qf a0 0).2))))))
     (cond (decide (48≤((qf a0 0).1:Int)))
      (cond (decide (((qf a0 0).1:Int)≤57))
       (I (.inr (.inl (0+(qf a0 0).2))))
       (I (.inr (.inl (0+(qf a0 0).2)))))
      (I (.inr (.inl (0+(qf a0 0).2)))))))
   (cond (decide (97≤((qf a0 0).1:Int)))
    (cond (decide (48≤((qf a0 0).1:Int)))
     (cond (decide (((qf a0 0).1:Int)≤57))
      (cond (decide (((qf a0 0).1:Int)≤122))
       (I (.inl (I (0+(qf a0 0).2))))
       (I (.inr (.inl (0+(qf a0 0).2)))))
      (cond (decide (((qf a0 0).1:Int)≤122))
       (I (.inl (I (0+(qf a0 0).2))))
       (I (.inr (.inl (0+(qf a0 0).2))))))
     (cond (decide (((qf a0 0).1:Int)≤122))
      (I (.inl (I (0+(qf a0 0).2))))
      (I (.inr (.inl (0+(qf a0 0).2))))))
    (cond (decide (48≤((qf a0 0).1:Int)))
     (cond (decide (((qf a0 0).1:Int)≤57))
      (I (.inr (.inl (0+(qf a0 0).2))))
      (I (.inr (.inl (0+(qf a0 0).2)))))
     (I (.inr (.inl (0+(qf a0 0).2)))))))
  (I (.inr (.inr 0)))
def tX (a0:List UInt8)(s0:Nat):Option (Option (Nat)⊕(Nat⊕Nat)):=
 cond (decide (s0<a0.length))
  (cond (decide (65≤((qf a0 s0).1:Int)))
   (cond (decide (((qf a0 s0).1:Int)≤90))
    (cond (decide (48≤((qf a0 s0).1:Int)))
     (cond (decide (((qf a0 s0).1:Int)≤57))
      (I (.inl (I (s0+(qf a0 s0).2))))
      (I (.inl (I (s0+(qf a0 s0).2)))))
     (I (.inl (I (s0+(qf a0 s0).2)))))
    (cond (decide (97≤((qf a0 s0).1:Int)))
     (cond (decide (48≤((qf a0 s0).1:Int)))
      (cond (decide (((qf a0 s0).1:Int)≤57))
       (cond (decide (((qf a0 s0).1:Int)≤122))
        (I (.inl (I (s0+(qf a0 s0).2))))
        (cond (decide ((s0:Int)=0))
         (I (.inr (.inl (s0+(qf a0 s0).2))))
         (I (.inl (I (s0+(qf a0 s0).2))))))
       (cond (decide (((qf a0 s0).1:Int)≤122))
        (I (.inl (I (s0+(qf a0 s0).2))))
        (cond (decide ((s0:Int)=0))
         (I (.inr (.inl (s0+(qf a0 s0).2))))
         (cond (decide (((qf a0 s0).1:Int)=95))
          (I (.inl (I (s0+(qf a0 s0).2))))
          (I (.inr (.inl (s0+(qf a0 s0).2))))))))
      (cond (decide (((qf a0 s0).1:Int)≤122))
       (I (.inl (I (s0+(qf a0 s0).2))))
       (cond (decide ((s0:Int)=0))
        (I (.inr (.inl (s0+(qf a0 s0).2))))
        (cond (decide (((qf a0 s0).1:Int)=95))
         (I (.inl (I (s0+(qf a0 s0).2))))
         (I (.inr (.inl (s0+(qf a0 s0).2))))))))
     (cond (decide (48≤((qf a0 s0).1:Int)))
      (cond (decide (((qf a0 s0).1:Int)≤57))
       (cond (decide ((s0:Int)=0))
        (I (.inr (.inl (s0+(qf a0 s0).2))))
        (I (.inl (I (s0+(qf a0 s0).2)))))
       (cond (decide ((s0:Int)=0))
        (I (.inr (.inl (s0+(qf a0 s0).2))))
        (cond (decide (((qf a0 s0).1:Int)=95))
         (I (.inl (I (s0+(qf a0 s0).2))))
         (I (.inr (.inl (s0+(qf a0 s0).2)))))))
      (cond (decide ((s0:Int)=0))
       (I (.inr (.inl (s0+(qf a0 s0).2))))
       (cond (decide (((qf a0 s0).1:Int)=95))
        (I (.inl (I (s0+(qf a0 s0).2))))
        (I (.inr (.inl (s0+(qf a0 s0).2)))))))))
   (cond (decide (97≤((qf a0 s0).1:Int)))
    (cond (decide (48≤((qf a0 s0).1:Int)))
     (cond (decide (((qf a0 s0).1:Int)≤57))
      (cond (decide (((qf a0 s0).1:Int)≤122))
       (I (.inl (I (s0+(qf a0 s0).2))))
       (cond (decide ((s0:Int)=0))
        (I (.inr (.inl (s0+(qf a0 s0).2))))
        (I (.inl (I (s0+(qf a0 s0).2))))))
      (cond (decide (((qf a0 s0).1:Int)≤122))
       (I (.inl (I (s0+(qf a0 s0).2))))
       (cond (decide ((s0:Int)=0))
        (I (.inr (.inl (s0+(qf a0 s0).2))))
        (cond (decide (((qf a0 s0).1:Int)=95))
         (I (.inl (I (s0+(qf a0 s0).2))))
         (I (.inr (.inl (s0+(qf a0 s0).2))))))))
     (cond (decide (((qf a0 s0).1:Int)≤122))
      (I (.inl (I (s0+(qf a0 s0).2))))
      (cond (decide ((s0:Int)=0))
       (I (.inr (.inl (s0+(qf a0 s0).2))))
       (cond (decide (((qf a0 s0).1:Int)=95))
        (I (.inl (I (s0+(qf a0 s0).2))))
        (I (.inr (.inl (s0+(qf a0 s0).2))))))))
    (cond (decide (48≤((qf a0 s0).1:Int)))
     (cond (decide (((qf a0 s0).1:Int)≤57))
      (cond (decide ((s0:Int)=0))
       (I (.inr (.inl (s0+(qf a0 s0).2))))
       (I (.inl (I (s0+(qf a0 s0).2)))))
      (cond (decide ((s0:Int)=0))
       (I (.inr (.inl (s0+(qf a0 s0).2))))
       (cond (decide (((qf a0 s0).1:Int)=95))
        (I (.inl (I (s0+(qf a0 s0).2))))
        (I (.inr (.inl (s0+(qf a0 s0).2)))))))
     (cond (decide ((s0:Int)=0))
      (I (.inr (.inl (s0+(qf a0 s0).2))))
      (cond (decide (((qf a0 s0).1:Int)=95))
       (I (.inl (I (s0+(qf a0 s0).2))))
       (I (.inr (.inl (s0+(qf a0 s0).2)))))))))
  (I (.inr (.inr s0)))
def EQ (a0:List UInt8):Option (Nat)→Option (Option (Nat)⊕(Nat⊕Nat))
 |none=>tW a0
 |some x=>tX a0 x
def RB (a0:List UInt8)(s0:Nat):aV:=⟨[(0,.str a0,Ea),(8,.ptr 0 0,Ea),(46,.bool Ea,Ea)],[.iter a0 s0]⟩
def wQ (a0:List UInt8):Option (Nat)→aV
 |none=>⟨[(0,.str a0,Ea),(8,.ptr 0 0,Ea)],[.iter a0 0]⟩
 |some x=>RB a0 x
def wR (a0:List UInt8):Nat⊕Nat→je×aV
 | .inl d=>(.ret,⟨[(2,.bool Ea,Ea)],[.iter a0 d]⟩)
 | .inr d=>(.exit 0,⟨[(0,.str a0,Ea),(8,.ptr 0 0,Ea),(9,.av [.bool Ea],Ea),(10,.bool Ea,Ea)],[.iter a0 d]⟩)
theorem jg1 (a0:List UInt8)(r)(h:tW a0=I r):zd pr wS (wQ a0) (wR a0) Ec r:=by
 unfold tW at h
 repeat' first|(replace h:=qc h;rcases h with⟨g,h⟩|⟨g,h⟩)
 all_goals (cases h<;>((first|refine qy ?_|refine nk ?_);simp only[go_sem,seval,wS,wQ,RB,ZS,wR, *]<;>rfl))
theorem jgj (a0:List UInt8)(s0:Nat)(r)(h:tX a0 s0=I r):zd pr wS (wQ a0) (wR a0) (I s0) r:=by
 unfold tX at h
 repeat' first|(replace h:=qc h;rcases h with⟨g,h⟩|⟨g,h⟩)
 all_goals (cases h<;>((first|refine qy ?_|refine nk ?_);simp only[go_sem,seval,wS,wQ,RB,ZS,wR, *]<;>rfl))
theorem jpb (a0:List UInt8):∀(x:Option (Nat)) (r) (h:EQ a0 x=I r),zd pr wS (wQ a0) (wR a0) x r
 |none,r,h=>jg1 a0 r h
 |some x,r,h=>jgj a0 x r h
theorem jqs (a0:List UInt8){s0 d}(h:bq (EQ a0) s0=I d):X pr (.loop wS) (wQ a0 s0)=I (wR a0 d):=nT (jpb a0) h
def f81 (a0:List UInt8):Option Bool:=
 qe (bq (EQ a0) Ec) fun d192=>match d192 with
  | .inl d194=>
   I Ea
  | .inr d195=>
   cond (decide (a0=[]))
    (I Ea)
    (I (decide ((a0.length:Int)≤24)))
theorem W81 {a0 r}(h:f81 a0=I r):ae pr (X pr) 81 [.str a0]=I (.bool r,Ea):=by
 unfold f81 at h
 refine ll F3 ?_
 repeat' first|(replace h:=qa h;obtain⟨d,g,h⟩:=h;with_reducible first|(replace g:=jqs a0 g;rcases d with d|d<;>dsimp only[wQ,wR,np]at g h)|skip)|(replace h:=qc h;rcases h with⟨g,h⟩|⟨g,h⟩)
 all_goals (cases h<;>(simp only[go_sem,seval,F3, *];exact⟨_,rfl⟩))
end Go.Z
namespace Go.Z
open Go Go.Abs Go.W
def BP (a0:List UInt8):Option Int:=
 qe (f81 a0) fun v1=>
 qe (f48 (!v1) 8) fun v3=>
 I v3
theorem jna (hp:ql){a0 r}(h:BP a0=I r):ah pr (X pr) 110 [.str a0] hp=I (Iv r,Ea,hp):=by
 unfold BP at h
 obtain⟨v1,h2,h⟩:=qa h
 have cT:ae pr (X pr) 81 [.str a0]=I (.bool v1,Ea):=W81 h2
 obtain⟨v3,h4,h⟩:=qa h
 have nY:ae pr (X pr) 48 [.bool (!v1),Iv 8]=I (Iv v3,Ea):=Ja h4
 have hr:v3=r:=I.inj h
 subst hr
 rw[qn (show pr.bn 110=I pP from rfl) (by simp)]
 simp only[go_sem,seval,pP,cT,nY]<;>rfl
def BQ (a0:Int):Option Int:=
 qe (f60 a0 0 999999999) fun v1=>
 I v1
theorem jo0 (hp:ql){a0 r}(h:BQ a0=I r):ah pr (X pr) 112 [Iv a0] hp=I (Iv r,Ea,hp):=by
 unfold BQ at h
 obtain⟨v1,h2,h⟩:=qa h
 have cT:ae pr (X pr) 60 [Iv a0,Iv 0,Iv 999999999]=I (Iv v1,Ea):=W60 h2
 have hr:v1=r:=I.inj h
 subst hr
 rw[qn (show pr.bn 112=I pQ from rfl) (by simp)]
 simp only[go_sem,seval,pQ,cT]<;>rfl
def ES (a0:Option (List (List UInt8)))(s0:(Option (List Int))×Int×Bool):Option (((Option (List Int))×Int×Bool)⊕(((Option (List Int))×Bool×Int))):=
 cond (decide (s0.2.1<((a0.getD []).length:Int)))
  (qe (jn (a0.getD []) s0.2.1) fun fj=>
  qe (BP fj) fun v20=>
  cond s0.2.2
   (qe (cK s0.1 [v20]) fun v23=>
   I (.inl (v23,qh .i64 (s0.2.1+1),Eb)))
   (cond s0.1.isNone
    (qe (cK s0.1 [v20]) fun v26=>
    I (.inl (v26,qh .i64 (s0.2.1+1),Eb)))
    (Ec)))
  (I (.inr (s0.1,s0.2.2,s0.2.1)))
def Jy (a0:Option (List (List UInt8)))(s0:(Option (List Int))×Int×Bool):aV:=⟨[(1,.fn (.func 110) [] [],Ea),(5,sl 1 qx s0.1,s0.2.2),(8,sl 1 qv a0,Ea),(9,Lv a0,Ea),(10,Iv s0.2.1,Ea)],[]⟩
def Jz (a0:Option (List (List UInt8)))(d:((Option (List Int))×Bool×Int)):je×aV:=(.exit 0,⟨[(1,.fn (.func 110) [] [],Ea),(5,sl 1 qx d.1,d.2.1),(8,sl 1 qv a0,Ea),(9,Lv a0,Ea),(10,Iv d.2.2,Ea),(11,.bool Ea,Ea)],[]⟩)
theorem jhx (a0:Option (List (List UInt8)))(s0:(Option (List Int))×Int×Bool)(r)(h:ES a0 s0=I r):zd pr JA (Jy a0) (Jz a0) s0 r:=by
 unfold ES at h
 repeat' first|(replace h:=qa h;obtain⟨d,g,h⟩:=h;with_reducible first|replace g:=jna [] g|replace g:=ZT g|skip)|(replace h:=qc h;rcases h with⟨g,h⟩|⟨g,h⟩)
 all_goals (cases h<;>((first|refine qy ?_|refine nk ?_);simp only[go_sem,seval,JA,Jy,ri,Jz, *]<;>rfl))
theorem ji9 (a0:Option (List (List UInt8))){s0 d}(h:bq (ES a0) s0=I d):X pr (.loop JA) (Jy a0 s0)=I (Jz a0 d):=nT (jhx a0) h
def ER (a0:Option (List (List UInt8))):Option ((Option (List Int))×Bool):=
 qe (bq (ES a0) (Ec,0,Ea)) fun d28=>
 I (d28.1,d28.2.1)
theorem j1t {a0 r}(h:ER a0=I r):ae pr (X pr) 109 [sl 1 qv a0,.fn (.func 110) [] []]=I (sl 1 qx r.1,r.2):=by
 unfold ER at h
 refine Qu pR ?_
 repeat' first|(replace h:=qa h;obtain⟨d,g,h⟩:=h;with_reducible first|(replace g:=ji9 a0 g;dsimp only[Jy,Jz,np]at g h)|skip)|(replace h:=qc h;rcases h with⟨g,h⟩|⟨g,h⟩)
 all_goals (cases h<;>(simp only[go_sem,seval,pR, *];exact⟨_,rfl⟩))
def EU (a0:Option (List Int))(s0:(Option (List Int))×Int×Bool):Option (((Option (List Int))×Int×Bool)⊕(((Option (List Int))×Bool×Int))):=
 cond (decide (s0.2.1<((a0.getD []).length:Int)))
  (qe (jn (a0.getD []) s0.2.1) fun fj=>
  qe (BQ fj) fun v20=>
  cond s0.2.2
   (qe (cK s0.1 [v20]) fun v23=>
   I (.inl (v23,qh .i64 (s0.2.1+1),Eb)))
   (cond s0.1.isNone
    (qe (cK s0.1 [v20]) fun v26=>
    I (.inl (v26,qh .i64 (s0.2.1+1),Eb)))
    (Ec)))
  (I (.inr (s0.1,s0.2.2,s0.2.1)))
def JB (a0:Option (List Int))(s0:(Option (List Int))×Int×Bool):aV:=⟨[(1,.fn (.func 112) [] [],Ea),(5,sl 1 qx s0.1,s0.2.2),(8,sl 1 qx a0,Ea),(9,Lv a0,Ea),(10,Iv s0.2.1,Ea)],[]⟩
def JC (a0:Option (List Int))(d:((Option (List Int))×Bool×Int)):je×aV:=(.exit 0,⟨[(1,.fn (.func 112) [] [],Ea),(5,sl 1 qx d.1,d.2.1),(8,sl 1 qx a0,Ea),(9,Lv a0,Ea),(10,Iv d.2.2,Ea),(11,.bool Ea,Ea)],[]⟩)
theorem jh8 (a0:Option (List Int))(s0:(Option (List Int))×Int×Bool)(r)(h:EU a0 s0=I r):zd pr JD (JB a0) (JC a0) s0 r:=by
 unfold EU at h
 repeat' first|(replace h:=qa h;obtain⟨d,g,h⟩:=h;with_reducible first|replace g:=jo0 [] g|replace g:=ZT g|skip)|(replace h:=qc h;rcases h with⟨g,h⟩|⟨g,h⟩)
 all_goals (cases h<;>((first|refine qy ?_|refine nk ?_);simp only[go_sem,seval,JD,JB,ri,JC, *]<;>rfl))
theorem jgn (a0:Option (List Int)){s0 d}(h:bq (EU a0) s0=I d):X pr (.loop JD) (JB a0 s0)=I (JC a0 d):=nT (jh8 a0) h
def ET (a0:Option (List Int)):Option ((Option (List Int))×Bool):=
 qe (bq (EU a0) (Ec,0,Ea)) fun d28=>
 I (d28.1,d28.2.1)
theorem jyb {a0 r}(h:ET a0=I r):ae pr (X pr) 111 [sl 1 qx a0,.fn (.func 112) [] []]=I (sl 1 qx r.1,r.2):=by
 unfold ET at h
 refine Qu pS ?_
 repeat' first|(replace h:=qa h;obtain⟨d,g,h⟩:=h;with_reducible first|(replace g:=jgn a0 g;dsimp only[JB,JC,np]at g h)|skip)|(replace h:=qc h;rcases h with⟨g,h⟩|⟨g,h⟩)
 all_goals (cases h<;>(simp only[go_sem,seval,pS, *];exact⟨_,rfl⟩))
def B4 (a0:Option (List (List UInt8))):Option ((Option (List (List UInt8)))×Bool):=
 cond a0.isNone
  (I (Ec,Ea))
  (qe (cK (I []) (a0.getD [])) fun v2=>
  I (v2,Eb))
theorem j28 {a0 r}(h:B4 a0=I r):ae pr (X pr) 114 [sl 1 qv a0]=I (sl 1 qv r.1,r.2):=by
 unfold B4 at h
 refine Qu pT ?_
 repeat' first|(replace h:=qa h;obtain⟨d,g,h⟩:=h)|(replace h:=qc h;rcases h with⟨g,h⟩|⟨g,h⟩)
 all_goals (cases h<;>(simp only[go_sem,seval,pT,q5w, *];exact⟨_,rfl⟩))
def JE (a0:Option (List (List UInt8)))(a1:List UInt8)(s0:Int):Option (Int⊕(Int⊕Int)):=
 cond (decide (s0<((a0.getD []).length:Int)))
  (qe (jn (a0.getD []) s0) fun v10=>
  cond (decide (a1=v10))
   (I (.inr (.inl s0)))
   (I (.inl (qh .i64 (s0+1)))))
  (I (.inr (.inr s0)))
def JF (a0:Option (List (List UInt8)))(a1:List UInt8)(s0:Int):aV:=⟨[(0,sl 1 qv a0,Ea),(1,.str a1,Ea),(7,Lv a0,Ea),(8,Iv s0,Ea)],[]⟩
def JG (a0:Option (List (List UInt8)))(a1:List UInt8):Int⊕Int→je×aV
 | .inl d=>(.ret,⟨[(4,Iv d,Ea)],[]⟩)
 | .inr d=>(.exit 0,⟨[(0,sl 1 qv a0,Ea),(1,.str a1,Ea),(7,Lv a0,Ea),(8,Iv d,Ea),(9,.bool Ea,Ea)],[]⟩)
theorem jgg (a0:Option (List (List UInt8)))(a1:List UInt8)(s0:Int)(r)(h:JE a0 a1 s0=I r):zd pr JH (JF a0 a1) (JG a0 a1) s0 r:=by
 unfold JE at h
 repeat' first|(replace h:=qa h;obtain⟨d,g,h⟩:=h)|(replace h:=qc h;rcases h with⟨g,h⟩|⟨g,h⟩)
 all_goals (cases h<;>((first|refine qy ?_|refine nk ?_);simp only[go_sem,seval,JH,JF,ri,JG, *]<;>rfl))
theorem jiy (a0:Option (List (List UInt8)))(a1:List UInt8){s0 d}(h:bq (JE a0 a1) s0=I d):X pr (.loop JH) (JF a0 a1 s0)=I (JG a0 a1 d):=nT (jgg a0 a1) h
def IK (a0:Option (List (List UInt8)))(a1:List UInt8):Option Int:=
 qe (bq (JE a0 a1) 0) fun d13=>match d13 with
  | .inl d15=>
   I d15
  | .inr d16=>
   I (-1)
theorem j2m {a0 a1 r}(h:IK a0 a1=I r):ae pr (X pr) 123 [sl 1 qv a0,.str a1]=I (Iv r,Ea):=by
 unfold IK at h
 refine ll pU ?_
 repeat' first|(replace h:=qa h;obtain⟨d,g,h⟩:=h;with_reducible first|(replace g:=jiy a0 a1 g;rcases d with d|d<;>dsimp only[JF,JG,np]at g h)|skip)|(replace h:=qc h;rcases h with⟨g,h⟩|⟨g,h⟩)
 all_goals (cases h<;>(simp only[go_sem,seval,pU, *];exact⟨_,rfl⟩))
def f69 (a0:Option (List (List UInt8)))(a1:List UInt8):Option Bool:=
 qe (IK a0 a1) fun v1=>
 I (decide (0≤v1))
theorem W69 {a0 a1 r}(h:f69 a0 a1=I r):ae pr (X pr) 69 [sl 1 qv a0,.str a1]=I (.bool r,Ea):=by
 unfold f69 at h
 refine ll F4 ?_
 repeat' first|(replace h:=qa h;obtain⟨d,g,h⟩:=h;with_reducible first|replace g:=j2m g|skip)|(replace h:=qc h;rcases h with⟨g,h⟩|⟨g,h⟩)
 all_goals (cases h<;>(simp only[go_sem,seval,F4, *];exact⟨_,rfl⟩))
end Go.Z
namespace Go.Z
open Go Go.Abs Go.W
def wP (a0:Option (List aT))(s0:Int)(s1:Int):Option (Int⊕(Unit⊕Int)):=
 qe (jn (a0.getD []) s0) fun v79=>
 cond (decide (s1<((v79.names.getD []).length:Int)))
  (qe (jn (v79.names.getD []) s1) fun v82=>
  cond (decide (40<(v82.length:Int)))
   (I (.inr (.inl ())))
   (I (.inl (qh .i64 (s1+1)))))
  (I (.inr (.inr s1)))
def JI (a0:Option (List aT))(s0:Int)(s1:Int):aV:=⟨[(0,sl 5 bX a0,Ea),(5,Iv s0,Ea),(6,Iv s1,Ea)],[]⟩
def JJ (a0:Option (List aT))(s0:Int):Unit⊕Int→je×aV
 | .inl d=>(.ret,⟨[(4,.bool Ea,Ea)],[]⟩)
 | .inr d=>(.exit 2,⟨[(0,sl 5 bX a0,Ea),(5,Iv s0,Ea),(6,Iv d,Ea),(58,.bool Ea,Ea)],[]⟩)
theorem jth (a0:Option (List aT))(s0:Int)(s1:Int)(r)(h:wP a0 s0 s1=I r):zd pr JK (JI a0 s0) (JJ a0 s0) s1 r:=by
 unfold wP at h
 repeat' first|(replace h:=qa h;obtain⟨d,g,h⟩:=h)|(replace h:=qc h;rcases h with⟨g,h⟩|⟨g,h⟩)
 all_goals (cases h<;>((first|refine qy ?_|refine nk ?_);simp only[go_sem,seval,JK,JI,ri,JJ, *]<;>rfl))
theorem jsl (a0:Option (List aT))(s0:Int){s1 d}(h:bq (wP a0 s0) s1=I d):X pr (.loop JK) (JI a0 s0 s1)=I (JJ a0 s0 d):=nT (jth a0 s0) h
def wO (a0:Option (List aT))(s0:Int):Option (Int⊕(Unit⊕Int)):=
 cond (decide (s0<((a0.getD []).length:Int)))
  (qe (jn (a0.getD []) s0) fun JL=>
  cond (decide (40<(JL.kind.length:Int)))
   (I (.inr (.inl ())))
   (cond (decide (6<((JL.names.getD []).length:Int)))
    (I (.inr (.inl ())))
    (cond (decide (8<((JL.values.getD []).length:Int)))
     (I (.inr (.inl ())))
     (cond (decide (200<(JL.text.length:Int)))
      (I (.inr (.inl ())))
      (qe (bq (wP a0 s0) 0) fun d85=>match d85 with
       | .inl d87=>
        I (.inr (.inl ()))
       | .inr d88=>
        I (.inl (qh .i64 (s0+1))))))))
  (I (.inr (.inr s0)))
def JM (a0:Option (List aT))(s0:Int):aV:=⟨[(0,sl 5 bX a0,Ea),(5,Iv s0,Ea)],[]⟩
def JN (a0:Option (List aT)):Unit⊕Int→je×aV
 | .inl d=>(.ret,⟨[(4,.bool Ea,Ea)],[]⟩)
 | .inr d=>(.exit 0,⟨[(0,sl 5 bX a0,Ea),(5,Iv d,Ea),(14,.bool Ea,Ea)],[]⟩)
theorem jst (a0:Option (List aT))(s0:Int)(r)(h:wO a0 s0=I r):zd pr JO (JM a0) (JN a0) s0 r:=by
 unfold wO at h
 repeat' first|(replace h:=qa h;obtain⟨d,g,h⟩:=h;with_reducible first|(replace g:=jsl a0 s0 g;rcases d with d|d<;>dsimp only[JI,JJ,np]at g h)|skip)|(replace h:=qc h;rcases h with⟨g,h⟩|⟨g,h⟩)
 all_goals (cases h<;>((first|refine qy ?_|refine nk ?_);simp only[go_sem,seval,JO,JM,ri,JN, *]<;>rfl))
theorem jmv (a0:Option (List aT)){s0 d}(h:bq (wO a0) s0=I d):X pr (.loop JO) (JM a0 s0)=I (JN a0 d):=nT (jst a0) h
def f12 (a0:Option (List aT))(a1:Int):Option Bool:=
 cond (decide (a1<((a0.getD []).length:Int)))
  (I Ea)
  (qe (bq (wO a0) 0) fun d89=>match d89 with
   | .inl d91=>
    I Ea
   | .inr d92=>
    I Eb)
theorem W12 {a0 a1 r}(h:f12 a0 a1=I r):ae pr (X pr) 12 [sl 5 bX a0,Iv a1]=I (.bool r,Ea):=by
 unfold f12 at h
 refine ll sx ?_
 repeat' first|(replace h:=qa h;obtain⟨d,g,h⟩:=h;with_reducible first|(replace g:=jmv a0 g;rcases d with d|d<;>dsimp only[JM,JN,np]at g h)|skip)|(replace h:=qc h;rcases h with⟨g,h⟩|⟨g,h⟩)
 all_goals (cases h<;>(simp only[go_sem,seval,sx, *];exact⟨_,rfl⟩))
end Go.Z
end
