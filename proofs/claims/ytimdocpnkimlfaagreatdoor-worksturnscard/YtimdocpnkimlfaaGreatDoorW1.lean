/- Chapter 10. -/
import Derived.Test.YtimdocpnkimlfaaGreatDoorCA
set_option linter.unusedVariables false
set_option linter.unusedSimpArgs false
set_option maxRecDepth 100000
set_option maxHeartbeats 4000000
noncomputable section
open Bool renaming false→I,true→Es
open Option renaming some→En,none→E9
namespace Go.Z
open Go Go.Abs Go.W
def f48 (a0:Bool)(a1:Int):Option Int:=
 cond a0
  (En a1)
  (En 0)
theorem eO {a0 a1 r}(h:f48 a0 a1=En r):qc pr (X pr) 48 [.bool a0,Iv a1]=En (Iv r,I):=by
 unfold f48 at h
 refine zd Jq ?_
 repeat' first|(replace h:=qd h;rcases h with⟨g,h⟩|⟨g,h⟩)
 all_goals (cases h<;>(simp only[go_sem,seval,Jq, *];exact⟨_,rfl⟩))
def Bi (a0:Option (List Int))(s0:Int):Option (Int⊕(Int⊕Int)):=
 cond (decide (s0<((a0.getD []).length:Int)))
  (qa (qq (a0.getD []) s0) fun v10=>
  cond (decide (v10=0))
   (En (.inl (qe .i64 (s0+1))))
   (En (.inr (.inl v10))))
  (En (.inr (.inr s0)))
def Nr (a0:Option (List Int))(s0:Int):bf:=⟨[(5,sl 1 zy a0,I),(6,Lv a0,I),(7,Iv s0,I)],[]⟩
def Ns (a0:Option (List Int)):Int⊕Int→je×bf
 | .inl d=>(.ret,⟨[(2,Iv d,I)],[]⟩)
 | .inr d=>(.exit 0,⟨[(5,sl 1 zy a0,I),(6,Lv a0,I),(7,Iv d,I),(8,.bool I,I)],[]⟩)
theorem jyw (a0:Option (List Int))(s0:Int)(r)(h:Bi a0 s0=En r):jw pr Nt (Nr a0) (Ns a0) s0 r:=by
 unfold Bi at h
 repeat' first|(replace h:=qb h;obtain⟨d,g,h⟩:=h)|(replace h:=qd h;rcases h with⟨g,h⟩|⟨g,h⟩)
 all_goals (cases h<;>((first|refine qx ?_|refine jq ?_);simp only[go_sem,seval,Nt,Nr,jg,Ns, *]<;>rfl))
theorem j1i (a0:Option (List Int)){s0 d}(h:bB (Bi a0) s0=En d):X pr (.loop Nt) (Nr a0 s0)=En (Ns a0 d):=ze (jyw a0) h
def f46 (a0:Option (List Int)):Option Int:=
 qa (bB (Bi a0) 0) fun d13=>match d13 with
  | .inl d15=>
   En d15
  | .inr d16=>
   En 0
theorem iZ {a0 r}(h:f46 a0=En r):qc pr (X pr) 46 [sl 1 zy a0]=En (Iv r,I):=by
 unfold f46 at h
 refine zd Jr ?_
 repeat' first|(replace h:=qb h;obtain⟨d,g,h⟩:=h;with_reducible first|(replace g:=j1i a0 g;rcases d with d|d<;>dsimp only[Nr,Ns,zg]at g h)|skip)|(replace h:=qd h;rcases h with⟨g,h⟩|⟨g,h⟩)
 all_goals (cases h<;>(simp only[go_sem,seval,Jr, *];exact⟨_,rfl⟩))
def f60 (a0:Int)(a1:Int)(a2:Int):Option Int:=
 cond (decide (a0<a1))
  (qa (f48 Es 3) fun v2=>
  En v2)
  (qa (f48 (decide (a2<a0)) 3) fun v4=>
  En v4)
theorem Ni {a0 a1 a2 r}(h:f60 a0 a1 a2=En r):qc pr (X pr) 60 [Iv a0,Iv a1,Iv a2]=En (Iv r,I):=by
 unfold f60 at h
 refine zd Js ?_
 repeat' first|(replace h:=qb h;obtain⟨d,g,h⟩:=h;with_reducible first|replace g:=eO g|skip)|(replace h:=qd h;rcases h with⟨g,h⟩|⟨g,h⟩)
 all_goals (cases h<;>(simp only[go_sem,seval,Js, *];exact⟨_,rfl⟩))
def zC (a0:List UInt8)(s0:Int):Option (Int⊕(Unit⊕Int)):=
 cond (decide (s0<(a0.length:Int)))
  (qa (qq a0 s0) fun v70=>
  cond (decide (65≤(v70.toNat:Int)))
   (cond (decide ((v70.toNat:Int)≤90))
    (cond (decide (48≤(v70.toNat:Int)))
     (cond (decide ((v70.toNat:Int)≤57))
      (En (.inl (qe .i64 (s0+1))))
      (En (.inl (qe .i64 (s0+1)))))
     (En (.inl (qe .i64 (s0+1)))))
    (cond (decide (97≤(v70.toNat:Int)))
     (cond (decide (48≤(v70.toNat:Int)))
      (cond (decide ((v70.toNat:Int)≤57))
       (cond (decide ((v70.toNat:Int)≤122))
        (En (.inl (qe .i64 (s0+1))))
        (cond (decide (s0=0))
         (En (.inr (.inl ())))
         (En (.inl (qe .i64 (s0+1))))))
       (cond (decide ((v70.toNat:Int)≤122))
        (En (.inl (qe .i64 (s0+1))))
        (cond (decide (s0=0))
         (En (.inr (.inl ())))
         (cond (decide ((v70.toNat:Int)=95))
          (En (.inl (qe .i64 (s0+1))))
          (En (.inr (.inl ())))))))
      (cond (decide ((v70.toNat:Int)≤122))
       (En (.inl (qe .i64 (s0+1))))
       (cond (decide (s0=0))
        (En (.inr (.inl ())))
        (cond (decide ((v70.toNat:Int)=95))
         (En (.inl (qe .i64 (s0+1))))
         (En (.inr (.inl ())))))))
     (cond (decide (48≤(v70.toNat:Int)))
      (cond (decide ((v70.toNat:Int)≤57))
       (cond (decide (s0=0))
        (En (.inr (.inl ())))
        (En (.inl (qe .i64 (s0+1)))))
       (cond (decide (s0=0))
        (En (.inr (.inl ())))
        (cond (decide ((v70.toNat:Int)=95))
         (En (.inl (qe .i64 (s0+1))))
         (En (.inr (.inl ()))))))
      (cond (decide (s0=0))
       (En (.inr (.inl ())))
       (cond (decide ((v70.toNat:Int)=95))
        (En (.inl (qe .i64 (s0+1))))
        (En (.inr (.inl ()))))))))
   (cond (decide (97≤(v70.toNat:Int)))
    (cond (decide (48≤(v70.toNat:Int)))
     (cond (decide ((v70.toNat:Int)≤57))
      (cond (decide ((v70.toNat:Int)≤122))
       (En (.inl (qe .i64 (s0+1))))
       (cond (decide (s0=0))
        (En (.inr (.inl ())))
        (En (.inl (qe .i64 (s0+1))))))
      (cond (decide ((v70.toNat:Int)≤122))
       (En (.inl (qe .i64 (s0+1))))
       (cond (decide (s0=0))
        (En (.inr (.inl ())))
        (cond (decide ((v70.toNat:Int)=95))
         (En (.inl (qe .i64 (s0+1))))
         (En (.inr (.inl ())))))))
     (cond (decide ((v70.toNat:Int)≤122))
      (En (.inl (qe .i64 (s0+1))))
      (cond (decide (s0=0))
       (En (.inr (.inl ())))
       (cond (decide ((v70.toNat:Int)=95))
        (En (.inl (qe .i64 (s0+1))))
        (En (.inr (.inl ())))))))
    (cond (decide (48≤(v70.toNat:Int)))
     (cond (decide ((v70.toNat:Int)≤57))
      (cond (decide (s0=0))
       (En (.inr (.inl ())))
       (En (.inl (qe .i64 (s0+1)))))
      (cond (decide (s0=0))
       (En (.inr (.inl ())))
       (cond (decide ((v70.toNat:Int)=95))
        (En (.inl (qe .i64 (s0+1))))
        (En (.inr (.inl ()))))))
     (cond (decide (s0=0))
      (En (.inr (.inl ())))
      (cond (decide ((v70.toNat:Int)=95))
       (En (.inl (qe .i64 (s0+1))))
       (En (.inr (.inl ()))))))))
  (En (.inr (.inr s0)))
def Nu (a0:List UInt8)(s0:Int):bf:=⟨[(0,.str a0,I),(3,Iv s0,I)],[]⟩
def Nv (a0:List UInt8):Unit⊕Int→je×bf
 | .inl d=>(.ret,⟨[(2,.bool I,I)],[]⟩)
 | .inr d=>(.exit 0,⟨[(0,.str a0,I),(3,Iv d,I),(17,.bool I,I)],[]⟩)
theorem j7t (a0:List UInt8)(s0:Int)(r)(h:zC a0 s0=En r):jw pr Nw (Nu a0) (Nv a0) s0 r:=by
 unfold zC at h
 repeat' first|(replace h:=qb h;obtain⟨d,g,h⟩:=h)|(replace h:=qd h;rcases h with⟨g,h⟩|⟨g,h⟩)
 all_goals (cases h<;>((first|refine qx ?_|refine jq ?_);simp only[go_sem,seval,Nw,Nu,jlj,Nv, *]<;>rfl))
theorem j4p (a0:List UInt8){s0 d}(h:bB (zC a0) s0=En d):X pr (.loop Nw) (Nu a0 s0)=En (Nv a0 d):=ze (j7t a0) h
def f90 (a0:List UInt8):Option Bool:=
 cond (decide ((a0.length:Int)=0))
  (En I)
  (cond (decide (24<(a0.length:Int)))
   (En I)
   (qa (bB (zC a0) 0) fun d112=>match d112 with
    | .inl d114=>
     En I
    | .inr d115=>
     En Es))
theorem W90 {a0 r}(h:f90 a0=En r):qc pr (X pr) 90 [.str a0]=En (.bool r,I):=by
 unfold f90 at h
 refine zd Nx ?_
 repeat' first|(replace h:=qb h;obtain⟨d,g,h⟩:=h;with_reducible first|(replace g:=j4p a0 g;rcases d with d|d<;>dsimp only[Nu,Nv,zg]at g h)|skip)|(replace h:=qd h;rcases h with⟨g,h⟩|⟨g,h⟩)
 all_goals (cases h<;>(simp only[go_sem,seval,Nx, *];exact⟨_,rfl⟩))
def zD (a0:List UInt8):Option (Option (Nat)⊕(Nat⊕Nat)):=
 cond (decide (0<a0.length))
  (cond (decide (65≤((qn a0 0).1:Int)))
   (cond (decide (((qn a0 0).1:Int)≤90))
    (cond (decide (48≤((qn a0 0).1:Int)))
     (cond (decide (((qn a0 0).1:Int)≤57))
      (En (.inl (En (0+(qn a0 0).2))))
      (En (.inl (En (0+(qn a0 0).2)))))
     (En (.inl (En (0+(qn a0 0).2)))))
    (cond (decide (97≤((qn a0 0).1:Int)))
     (cond (decide (48≤((qn a0 0).1:Int)))
      (cond (decide (((qn a0 0).1:Int)≤57))
       (cond (decide (((qn a0 0).1:Int)≤122))
        (En (.inl (En (0+(qn a0 0).2))))
        (En (.inr (.inl (0+(qn a0 0).2)))))
       (cond (decide (((qn a0 0).1:Int)≤122))
        (En (.inl (En (0+(qn a0 0).2))))
        (En (.inr (.inl (0+(qn a0 0).2))))))
      (cond (decide (((qn a0 0).1:Int)≤122))
       (En (.inl (En (0+(qn a0 0).2))))
       (En (.inr (.inl (0+(qn a0 0).2))))))
     (cond (decide (48≤((qn a0 0).1:Int)))
      (cond (decide (((qn a0 0).1:Int)≤57))
       (En (.inr (.inl (0+(qn a0 0).2))))
       (En (.inr (.inl (0+(qn a0 0).2)))))
      (En (.inr (.inl (0+(qn a0 0).2)))))))
   (cond (decide (97≤((qn a0 0).1:Int)))
    (cond (decide (48≤((qn a0 0).1:Int)))
     (cond (decide (((qn a0 0).1:Int)≤57))
      (cond (decide (((qn a0 0).1:Int)≤122))
       (En (.inl (En (0+(qn a0 0).2))))
       (En (.inr (.inl (0+(qn a0 0).2)))))
      (cond (decide (((qn a0 0).1:Int)≤122))
       (En (.inl (En (0+(qn a0 0).2))))
       (En (.inr (.inl (0+(qn a0 0).2))))))
     (cond (decide (((qn a0 0).1:Int)≤122))
      (En (.inl (En (0+(qn a0 0).2))))
      (En (.inr (.inl (0+(qn a0 0).2))))))
    (cond (decide (48≤((qn a0 0).1:Int)))
     (cond (decide (((qn a0 0).1:Int)≤57))
      (En (.inr (.inl (0+(qn a0 0).2))))
      (En (.inr (.inl (0+(qn a0 0).2)))))
     (En (.inr (.inl (0+(qn a0 0).2)))))))
  (En (.inr (.inr 0)))
def zE (a0:List UInt8)(s0:Nat):Option (Option (Nat)⊕(Nat⊕Nat)):=
 cond (decide (s0<a0.length))
  (cond (decide (65≤((qn a0 s0).1:Int)))
   (cond (decide (((qn a0 s0).1:Int)≤90))
    (cond (decide (48≤((qn a0 s0).1:Int)))
     (cond (decide (((qn a0 s0).1:Int)≤57))
      (En (.inl (En (s0+(qn a0 s0).2))))
      (En (.inl (En (s0+(qn a0 s0).2)))))
     (En (.inl (En (s0+(qn a0 s0).2)))))
    (cond (decide (97≤((qn a0 s0).1:Int)))
     (cond (decide (48≤((qn a0 s0).1:Int)))
      (cond (decide (((qn a0 s0).1:Int)≤57))
       (cond (decide (((qn a0 s0).1:Int)≤122))
        (En (.inl (En (s0+(qn a0 s0).2))))
        (cond (decide ((s0:Int)=0))
         (En (.inr (.inl (s0+(qn a0 s0).2))))
         (En (.inl (En (s0+(qn a0 s0).2))))))
       (cond (decide (((qn a0 s0).1:Int)≤122))
        (En (.inl (En (s0+(qn a0 s0).2))))
        (cond (decide ((s0:Int)=0))
         (En (.inr (.inl (s0+(qn a0 s0).2))))
         (cond (decide (((qn a0 s0).1:Int)=95))
          (En (.inl (En (s0+(qn a0 s0).2))))
          (En (.inr (.inl (s0+(qn a0 s0).2))))))))
      (cond (decide (((qn a0 s0).1:Int)≤122))
       (En (.inl (En (s0+(qn a0 s0).2))))
       (cond (decide ((s0:Int)=0))
        (En (.inr (.inl (s0+(qn a0 s0).2))))
        (cond (decide (((qn a0 s0).1:Int)=95))
         (En (.inl (En (s0+(qn a0 s0).2))))
         (En (.inr (.inl (s0+(qn a0 s0).2))))))))
     (cond (decide (48≤((qn a0 s0).1:Int)))
      (cond (decide (((qn a0 s0).1:Int)≤57))
       (cond (decide ((s0:Int)=0))
        (En (.inr (.inl (s0+(qn a0 s0).2))))
        (En (.inl (En (s0+(qn a0 s0).2)))))
       (cond (decide ((s0:Int)=0))
        (En (.inr (.inl (s0+(qn a0 s0).2))))
        (cond (decide (((qn a0 s0).1:Int)=95))
         (En (.inl (En (s0+(qn a0 s0).2))))
         (En (.inr (.inl (s0+(qn a0 s0).2)))))))
      (cond (decide ((s0:Int)=0))
       (En (.inr (.inl (s0+(qn a0 s0).2))))
       (cond (decide (((qn a0 s0).1:Int)=95))
        (En (.inl (En (s0+(qn a0 s0).2))))
        (En (.inr (.inl (s0+(qn a0 s0).2)))))))))
   (cond (decide (97≤((qn a0 s0).1:Int)))
    (cond (decide (48≤((qn a0 s0).1:Int)))
     (cond (decide (((qn a0 s0).1:Int)≤57))
      (cond (decide (((qn a0 s0).1:Int)≤122))
       (En (.inl (En (s0+(qn a0 s0).2))))
       (cond (decide ((s0:Int)=0))
        (En (.inr (.inl (s0+(qn a0 s0).2))))
        (En (.inl (En (s0+(qn a0 s0).2))))))
      (cond (decide (((qn a0 s0).1:Int)≤122))
       (En (.inl (En (s0+(qn a0 s0).2))))
       (cond (decide ((s0:Int)=0))
        (En (.inr (.inl (s0+(qn a0 s0).2))))
        (cond (decide (((qn a0 s0).1:Int)=95))
         (En (.inl (En (s0+(qn a0 s0).2))))
         (En (.inr (.inl (s0+(qn a0 s0).2))))))))
     (cond (decide (((qn a0 s0).1:Int)≤122))
      (En (.inl (En (s0+(qn a0 s0).2))))
      (cond (decide ((s0:Int)=0))
       (En (.inr (.inl (s0+(qn a0 s0).2))))
       (cond (decide (((qn a0 s0).1:Int)=95))
        (En (.inl (En (s0+(qn a0 s0).2))))
        (En (.inr (.inl (s0+(qn a0 s0).2))))))))
    (cond (decide (48≤((qn a0 s0).1:Int)))
     (cond (decide (((qn a0 s0).1:Int)≤57))
      (cond (decide ((s0:Int)=0))
       (En (.inr (.inl (s0+(qn a0 s0).2))))
       (En (.inl (En (s0+(qn a0 s0).2)))))
      (cond (decide ((s0:Int)=0))
       (En (.inr (.inl (s0+(qn a0 s0).2))))
       (cond (decide (((qn a0 s0).1:Int)=95))
        (En (.inl (En (s0+(qn a0 s0).2))))
        (En (.inr (.inl (s0+(qn a0 s0).2)))))))
     (cond (decide ((s0:Int)=0))
      (En (.inr (.inl (s0+(qn a0 s0).2))))
      (cond (decide (((qn a0 s0).1:Int)=95))
       (En (.inl (En (s0+(qn a0 s0).2))))
       (En (.inr (.inl (s0+(qn a0 s0).2)))))))))
  (En (.inr (.inr s0)))
def Ii (a0:List UInt8):Option (Nat)→Option (Option (Nat)⊕(Nat⊕Nat))
 |none=>zD a0
 |some x=>zE a0 x
def Yl (a0:List UInt8)(s0:Nat):bf:=⟨[(0,.str a0,I),(8,.ptr 0 0,I),(46,.bool I,I)],[.iter a0 s0]⟩
def Ck (a0:List UInt8):Option (Nat)→bf
 |none=>⟨[(0,.str a0,I),(8,.ptr 0 0,I)],[.iter a0 0]⟩
 |some x=>Yl a0 x
def Cl (a0:List UInt8):Nat⊕Nat→je×bf
 | .inl d=>(.ret,⟨[(2,.bool I,I)],[.iter a0 d]⟩)
 | .inr d=>(.exit 0,⟨[(0,.str a0,I),(8,.ptr 0 0,I),(9,.aI [.bool I],I),(10,.bool I,I)],[.iter a0 d]⟩)
theorem js3 (a0:List UInt8)(r)(h:zD a0=En r):jw pr Cm (Ck a0) (Cl a0) E9 r:=by
 unfold zD at h
 repeat' first|(replace h:=qd h;rcases h with⟨g,h⟩|⟨g,h⟩)
 all_goals (cases h<;>((first|refine qx ?_|refine jq ?_);simp only[go_sem,seval,Cm,Ck,Yl,LC,Cl, *]<;>rfl))
theorem jr1 (a0:List UInt8)(s0:Nat)(r)(h:zE a0 s0=En r):jw pr Cm (Ck a0) (Cl a0) (En s0) r:=by
 unfold zE at h
 repeat' first|(replace h:=qd h;rcases h with⟨g,h⟩|⟨g,h⟩)
 all_goals (cases h<;>((first|refine qx ?_|refine jq ?_);simp only[go_sem,seval,Cm,Ck,Yl,LC,Cl, *]<;>rfl))
theorem j0c (a0:List UInt8):∀(x:Option (Nat)) (r) (h:Ii a0 x=En r),jw pr Cm (Ck a0) (Cl a0) x r
 |none,r,h=>js3 a0 r h
 |some x,r,h=>jr1 a0 x r h
theorem j64 (a0:List UInt8){s0 d}(h:bB (Ii a0) s0=En d):X pr (.loop Cm) (Ck a0 s0)=En (Cl a0 d):=ze (j0c a0) h
def f81 (a0:List UInt8):Option Bool:=
 qa (bB (Ii a0) E9) fun d192=>match d192 with
  | .inl d194=>
   En I
  | .inr d195=>
   cond (decide (a0=[]))
    (En I)
    (En (decide ((a0.length:Int)≤24)))
theorem W81 {a0 r}(h:f81 a0=En r):qc pr (X pr) 81 [.str a0]=En (.bool r,I):=by
 unfold f81 at h
 refine zd Jt ?_
 repeat' first|(replace h:=qb h;obtain⟨d,g,h⟩:=h;with_reducible first|(replace g:=j64 a0 g;rcases d with d|d<;>dsimp only[Ck,Cl,zg]at g h)|skip)|(replace h:=qd h;rcases h with⟨g,h⟩|⟨g,h⟩)
 all_goals (cases h<;>(simp only[go_sem,seval,Jt, *];exact⟨_,rfl⟩))
end Go.Z
namespace Go.Z
open Go Go.Abs Go.W
def Ep (a0:List UInt8):Option Int:=
 qa (f81 a0) fun v1=>
 qa (f48 (!v1) 8) fun v3=>
 En v3
theorem j2q (hp:qh){a0 r}(h:Ep a0=En r):qm pr (X pr) 110 [.str a0] hp=En (Iv r,I,hp):=by
 unfold Ep at h
 obtain⟨v1,h2,h⟩:=qb h
 have sG:qc pr (X pr) 81 [.str a0]=En (.bool v1,I):=W81 h2
 obtain⟨v3,h4,h⟩:=qb h
 have B9:qc pr (X pr) 48 [.bool (!v1),Iv 8]=En (Iv v3,I):=eO h4
 have hr:v3=r:=En.inj h
 subst hr
 rw[qj (show pr.bG 110=En tq from rfl) (by simp)]
 simp only[go_sem,seval,tq,sG,B9]<;>rfl
def Er (a0:Int):Option Int:=
 qa (f60 a0 0 999999999) fun v1=>
 En v1
theorem j72 (hp:qh){a0 r}(h:Er a0=En r):qm pr (X pr) 112 [Iv a0] hp=En (Iv r,I,hp):=by
 unfold Er at h
 obtain⟨v1,h2,h⟩:=qb h
 have sG:qc pr (X pr) 60 [Iv a0,Iv 0,Iv 999999999]=En (Iv v1,I):=Ni h2
 have hr:v1=r:=En.inj h
 subst hr
 rw[qj (show pr.bG 112=En tr from rfl) (by simp)]
 simp only[go_sem,seval,tr,sG]<;>rfl
def Ik (a0:Option (List (List UInt8)))(s0:(Option (List Int))×Int×Bool):Option (((Option (List Int))×Int×Bool)⊕(((Option (List Int))×Bool×Int))):=
 cond (decide (s0.2.1<((a0.getD []).length:Int)))
  (qa (qq (a0.getD []) s0.2.1) fun gQ=>
  qa (Ep gQ) fun v20=>
  cond s0.2.2
   (qa (bq s0.1 [v20]) fun v23=>
   En (.inl (v23,qe .i64 (s0.2.1+1),Es)))
   (cond s0.1.isNone
    (qa (bq s0.1 [v20]) fun v26=>
    En (.inl (v26,qe .i64 (s0.2.1+1),Es)))
    (E9)))
  (En (.inr (s0.1,s0.2.2,s0.2.1)))
def Ny (a0:Option (List (List UInt8)))(s0:(Option (List Int))×Int×Bool):bf:=⟨[(1,.fn (.func 110) [] [],I),(5,sl 1 zy s0.1,s0.2.2),(8,sl 1 yf a0,I),(9,Lv a0,I),(10,Iv s0.2.1,I)],[]⟩
def Nz (a0:Option (List (List UInt8)))(d:((Option (List Int))×Bool×Int)):je×bf:=(.exit 0,⟨[(1,.fn (.func 110) [] [],I),(5,sl 1 zy d.1,d.2.1),(8,sl 1 yf a0,I),(9,Lv a0,I),(10,Iv d.2.2,I),(11,.bool I,I)],[]⟩)
theorem jw4 (a0:Option (List (List UInt8)))(s0:(Option (List Int))×Int×Bool)(r)(h:Ik a0 s0=En r):jw pr NA (Ny a0) (Nz a0) s0 r:=by
 unfold Ik at h
 repeat' first|(replace h:=qb h;obtain⟨d,g,h⟩:=h;with_reducible first|replace g:=j2q [] g|replace g:=q74 g|skip)|(replace h:=qd h;rcases h with⟨g,h⟩|⟨g,h⟩)
 all_goals (cases h<;>((first|refine qx ?_|refine jq ?_);simp only[go_sem,seval,NA,Ny,jg,Nz, *]<;>rfl))
theorem jtz (a0:Option (List (List UInt8))){s0 d}(h:bB (Ik a0) s0=En d):X pr (.loop NA) (Ny a0 s0)=En (Nz a0 d):=ze (jw4 a0) h
def Ij (a0:Option (List (List UInt8))):Option ((Option (List Int))×Bool):=
 qa (bB (Ik a0) (E9,0,I)) fun d28=>
 En (d28.1,d28.2.1)
theorem zh9 {a0 r}(h:Ij a0=En r):qc pr (X pr) 109 [sl 1 yf a0,.fn (.func 110) [] []]=En (sl 1 zy r.1,r.2):=by
 unfold Ij at h
 refine kr tu ?_
 repeat' first|(replace h:=qb h;obtain⟨d,g,h⟩:=h;with_reducible first|(replace g:=jtz a0 g;dsimp only[Ny,Nz,zg]at g h)|skip)|(replace h:=qd h;rcases h with⟨g,h⟩|⟨g,h⟩)
 all_goals (cases h<;>(simp only[go_sem,seval,tu, *];exact⟨_,rfl⟩))
def Io (a0:Option (List Int))(s0:(Option (List Int))×Int×Bool):Option (((Option (List Int))×Int×Bool)⊕(((Option (List Int))×Bool×Int))):=
 cond (decide (s0.2.1<((a0.getD []).length:Int)))
  (qa (qq (a0.getD []) s0.2.1) fun gQ=>
  qa (Er gQ) fun v20=>
  cond s0.2.2
   (qa (bq s0.1 [v20]) fun v23=>
   En (.inl (v23,qe .i64 (s0.2.1+1),Es)))
   (cond s0.1.isNone
    (qa (bq s0.1 [v20]) fun v26=>
    En (.inl (v26,qe .i64 (s0.2.1+1),Es)))
    (E9)))
  (En (.inr (s0.1,s0.2.2,s0.2.1)))
def NB (a0:Option (List Int))(s0:(Option (List Int))×Int×Bool):bf:=⟨[(1,.fn (.func 112) [] [],I),(5,sl 1 zy s0.1,s0.2.2),(8,sl 1 zy a0,I),(9,Lv a0,I),(10,Iv s0.2.1,I)],[]⟩
def NC (a0:Option (List Int))(d:((Option (List Int))×Bool×Int)):je×bf:=(.exit 0,⟨[(1,.fn (.func 112) [] [],I),(5,sl 1 zy d.1,d.2.1),(8,sl 1 zy a0,I),(9,Lv a0,I),(10,Iv d.2.2,I),(11,.bool I,I)],[]⟩)
theorem juj (a0:Option (List Int))(s0:(Option (List Int))×Int×Bool)(r)(h:Io a0 s0=En r):jw pr ND (NB a0) (NC a0) s0 r:=by
 unfold Io at h
 repeat' first|(replace h:=qb h;obtain⟨d,g,h⟩:=h;with_reducible first|replace g:=j72 [] g|replace g:=q74 g|skip)|(replace h:=qd h;rcases h with⟨g,h⟩|⟨g,h⟩)
 all_goals (cases h<;>((first|refine qx ?_|refine jq ?_);simp only[go_sem,seval,ND,NB,jg,NC, *]<;>rfl))
theorem jwp (a0:Option (List Int)){s0 d}(h:bB (Io a0) s0=En d):X pr (.loop ND) (NB a0 s0)=En (NC a0 d):=ze (juj a0) h
def Il (a0:Option (List Int)):Option ((Option (List Int))×Bool):=
 qa (bB (Io a0) (E9,0,I)) fun d28=>
 En (d28.1,d28.2.1)
theorem zdo {a0 r}(h:Il a0=En r):qc pr (X pr) 111 [sl 1 zy a0,.fn (.func 112) [] []]=En (sl 1 zy r.1,r.2):=by
 unfold Il at h
 refine kr tv ?_
 repeat' first|(replace h:=qb h;obtain⟨d,g,h⟩:=h;with_reducible first|(replace g:=jwp a0 g;dsimp only[NB,NC,zg]at g h)|skip)|(replace h:=qd h;rcases h with⟨g,h⟩|⟨g,h⟩)
 all_goals (cases h<;>(simp only[go_sem,seval,tv, *];exact⟨_,rfl⟩))
def Ma (a0:Option (List (List UInt8))):Option ((Option (List (List UInt8)))×Bool):=
 cond a0.isNone
  (En (E9,I))
  (qa (bq (En []) (a0.getD [])) fun v2=>
  En (v2,Es))
theorem zex {a0 r}(h:Ma a0=En r):qc pr (X pr) 114 [sl 1 yf a0]=En (sl 1 yf r.1,r.2):=by
 unfold Ma at h
 refine kr tw ?_
 repeat' first|(replace h:=qb h;obtain⟨d,g,h⟩:=h)|(replace h:=qd h;rcases h with⟨g,h⟩|⟨g,h⟩)
 all_goals (cases h<;>(simp only[go_sem,seval,tw,kc, *];exact⟨_,rfl⟩))
def Mb (a0:Option (List Int)):Option ((Option (List Int))×Bool):=
 cond a0.isNone
  (En (E9,I))
  (qa (bq (En []) (a0.getD [])) fun v2=>
  En (v2,Es))
theorem zh7 {a0 r}(h:Mb a0=En r):qc pr (X pr) 115 [sl 1 zy a0]=En (sl 1 zy r.1,r.2):=by
 unfold Mb at h
 refine kr tz ?_
 repeat' first|(replace h:=qb h;obtain⟨d,g,h⟩:=h)|(replace h:=qd h;rcases h with⟨g,h⟩|⟨g,h⟩)
 all_goals (cases h<;>(simp only[go_sem,seval,tz,kc, *];exact⟨_,rfl⟩))
def f50 (a0:GEv):Option GEv:=
 qa (Ma a0.names) fun v1=>
 qa (Mb a0.values) fun v3=>
 cond v1.2
  (cond v3.2
   (En (⟨a0.number,a0.kind,v1.1,v3.1,a0.text⟩))
   (En (⟨a0.number,a0.kind,v1.1,v3.1,a0.text⟩)))
  (cond v3.2
   (En (⟨a0.number,a0.kind,v1.1,v3.1,a0.text⟩))
   (En (⟨a0.number,a0.kind,v1.1,v3.1,a0.text⟩)))
theorem Yk {a0 r}(h:f50 a0=En r):qc pr (X pr) 50 [aE a0]=En (aE r,I):=by
 unfold f50 at h
 refine zd Ju ?_
 repeat' first|(replace h:=qb h;obtain⟨d,g,h⟩:=h;with_reducible first|replace g:=zex g|replace g:=zh7 g|skip)|(replace h:=qd h;rcases h with⟨g,h⟩|⟨g,h⟩)
 all_goals (cases h<;>(simp only[go_sem,seval,Ju, *];exact⟨_,rfl⟩))
end Go.Z
namespace Go.Z
open Go Go.Abs Go.W
def NE (a0:ar)(a1:List UInt8)(s0:Int):Option (Int⊕(Int⊕Int)):=
 cond (decide (s0<((a0.units.getD []).length:Int)))
  (qa (qq (a0.units.getD []) s0) fun v10=>
  cond (decide (v10.name=a1))
   (En (.inr (.inl s0)))
   (En (.inl (qe .i64 (s0+1)))))
  (En (.inr (.inr s0)))
def NF (a0:ar)(a1:List UInt8)(s0:Int):bf:=⟨[(1,.str a1,I),(2,.ai (aR a0),I),(5,Iv s0,I)],[]⟩
def NG (a0:ar)(a1:List UInt8):Int⊕Int→je×bf
 | .inl d=>(.ret,⟨[(4,Iv d,I)],[]⟩)
 | .inr d=>(.exit 0,⟨[(1,.str a1,I),(2,.ai (aR a0),I),(5,Iv d,I),(10,.bool I,I)],[]⟩)
theorem jwa (a0:ar)(a1:List UInt8)(s0:Int)(r)(h:NE a0 a1 s0=En r):jw pr NH (NF a0 a1) (NG a0 a1) s0 r:=by
 unfold NE at h
 repeat' first|(replace h:=qb h;obtain⟨d,g,h⟩:=h)|(replace h:=qd h;rcases h with⟨g,h⟩|⟨g,h⟩)
 all_goals (cases h<;>((first|refine qx ?_|refine jq ?_);simp only[go_sem,seval,NH,NF,jg,NG, *]<;>rfl))
theorem jry (a0:ar)(a1:List UInt8){s0 d}(h:bB (NE a0 a1) s0=En d):X pr (.loop NH) (NF a0 a1 s0)=En (NG a0 a1 d):=ze (jwa a0 a1) h
def Ba (a0:ar)(a1:List UInt8):Option Int:=
 qa (bB (NE a0 a1) 0) fun d13=>match d13 with
  | .inl d15=>
   En d15
  | .inr d16=>
   En (-1)
theorem X8 {a0 a1 r}(h:Ba a0 a1=En r):qc pr (X pr) 152 [aR a0,.str a1]=En (Iv r,I):=by
 unfold Ba at h
 refine zd xg ?_
 repeat' first|(replace h:=qb h;obtain⟨d,g,h⟩:=h;with_reducible first|(replace g:=jry a0 a1 g;rcases d with d|d<;>dsimp only[NF,NG,zg]at g h)|skip)|(replace h:=qd h;rcases h with⟨g,h⟩|⟨g,h⟩)
 all_goals (cases h<;>(simp only[go_sem,seval,xg, *];exact⟨_,rfl⟩))
def NI (a0:ar)(a1:List UInt8)(s0:Int):Option (Int⊕(Int⊕Int)):=
 cond (decide (s0<((a0.au.getD []).length:Int)))
  (qa (qq (a0.au.getD []) s0) fun v10=>
  cond (decide (v10.name=a1))
   (En (.inr (.inl s0)))
   (En (.inl (qe .i64 (s0+1)))))
  (En (.inr (.inr s0)))
def NJ (a0:ar)(a1:List UInt8)(s0:Int):bf:=⟨[(1,.str a1,I),(2,.ai (aR a0),I),(5,Iv s0,I)],[]⟩
def NK (a0:ar)(a1:List UInt8):Int⊕Int→je×bf
 | .inl d=>(.ret,⟨[(4,Iv d,I)],[]⟩)
 | .inr d=>(.exit 0,⟨[(1,.str a1,I),(2,.ai (aR a0),I),(5,Iv d,I),(10,.bool I,I)],[]⟩)
theorem jus (a0:ar)(a1:List UInt8)(s0:Int)(r)(h:NI a0 a1 s0=En r):jw pr NL (NJ a0 a1) (NK a0 a1) s0 r:=by
 unfold NI at h
 repeat' first|(replace h:=qb h;obtain⟨d,g,h⟩:=h)|(replace h:=qd h;rcases h with⟨g,h⟩|⟨g,h⟩)
 all_goals (cases h<;>((first|refine qx ?_|refine jq ?_);simp only[go_sem,seval,NL,NJ,jg,NK, *]<;>rfl))
theorem jsr (a0:ar)(a1:List UInt8){s0 d}(h:bB (NI a0 a1) s0=En d):X pr (.loop NL) (NJ a0 a1 s0)=En (NK a0 a1 d):=ze (jus a0 a1) h
def wC (a0:ar)(a1:List UInt8):Option Int:=
 qa (bB (NI a0 a1) 0) fun d13=>match d13 with
  | .inl d15=>
   En d15
  | .inr d16=>
   En (-1)
theorem Jm {a0 a1 r}(h:wC a0 a1=En r):qc pr (X pr) 149 [aR a0,.str a1]=En (Iv r,I):=by
 unfold wC at h
 refine zd xh ?_
 repeat' first|(replace h:=qb h;obtain⟨d,g,h⟩:=h;with_reducible first|(replace g:=jsr a0 a1 g;rcases d with d|d<;>dsimp only[NJ,NK,zg]at g h)|skip)|(replace h:=qd h;rcases h with⟨g,h⟩|⟨g,h⟩)
 all_goals (cases h<;>(simp only[go_sem,seval,xh, *];exact⟨_,rfl⟩))
def NM (a0:ar)(a1:List UInt8)(s0:Int):Option (Int⊕(Int⊕Int)):=
 cond (decide (s0<((a0.ae.getD []).length:Int)))
  (qa (qq (a0.ae.getD []) s0) fun v10=>
  cond (decide (v10.name=a1))
   (En (.inr (.inl s0)))
   (En (.inl (qe .i64 (s0+1)))))
  (En (.inr (.inr s0)))
def NN (a0:ar)(a1:List UInt8)(s0:Int):bf:=⟨[(1,.str a1,I),(2,.ai (aR a0),I),(5,Iv s0,I)],[]⟩
def NP (a0:ar)(a1:List UInt8):Int⊕Int→je×bf
 | .inl d=>(.ret,⟨[(4,Iv d,I)],[]⟩)
 | .inr d=>(.exit 0,⟨[(1,.str a1,I),(2,.ai (aR a0),I),(5,Iv d,I),(10,.bool I,I)],[]⟩)
theorem jr5 (a0:ar)(a1:List UInt8)(s0:Int)(r)(h:NM a0 a1 s0=En r):jw pr NQ (NN a0 a1) (NP a0 a1) s0 r:=by
 unfold NM at h
 repeat' first|(replace h:=qb h;obtain⟨d,g,h⟩:=h)|(replace h:=qd h;rcases h with⟨g,h⟩|⟨g,h⟩)
 all_goals (cases h<;>((first|refine qx ?_|refine jq ?_);simp only[go_sem,seval,NQ,NN,jg,NP, *]<;>rfl))
theorem jvo (a0:ar)(a1:List UInt8){s0 d}(h:bB (NM a0 a1) s0=En d):X pr (.loop NQ) (NN a0 a1 s0)=En (NP a0 a1 d):=ze (jr5 a0 a1) h
def wD (a0:ar)(a1:List UInt8):Option Int:=
 qa (bB (NM a0 a1) 0) fun d13=>match d13 with
  | .inl d15=>
   En d15
  | .inr d16=>
   En (-1)
theorem Nh {a0 a1 r}(h:wD a0 a1=En r):qc pr (X pr) 151 [aR a0,.str a1]=En (Iv r,I):=by
 unfold wD at h
 refine zd xi ?_
 repeat' first|(replace h:=qb h;obtain⟨d,g,h⟩:=h;with_reducible first|(replace g:=jvo a0 a1 g;rcases d with d|d<;>dsimp only[NN,NP,zg]at g h)|skip)|(replace h:=qd h;rcases h with⟨g,h⟩|⟨g,h⟩)
 all_goals (cases h<;>(simp only[go_sem,seval,xi, *];exact⟨_,rfl⟩))
def BK (a0:Option (List GEv))(s0:Int)(s1:Int):Option (Int⊕(Unit⊕Int)):=
 qa (qq (a0.getD []) s0) fun ML=>
 cond (decide (s1<((ML.names.getD []).length:Int)))
  (qa (qq (ML.names.getD []) s1) fun v82=>
  cond (decide (40<(v82.length:Int)))
   (En (.inr (.inl ())))
   (En (.inl (qe .i64 (s1+1)))))
  (En (.inr (.inr s1)))
def NR (a0:Option (List GEv))(s0:Int)(s1:Int):bf:=⟨[(0,sl 5 vev a0,I),(5,Iv s0,I),(6,Iv s1,I)],[]⟩
def NS (a0:Option (List GEv))(s0:Int):Unit⊕Int→je×bf
 | .inl d=>(.ret,⟨[(4,.bool I,I)],[]⟩)
 | .inr d=>(.exit 2,⟨[(0,sl 5 vev a0,I),(5,Iv s0,I),(6,Iv d,I),(58,.bool I,I)],[]⟩)
theorem j09 (a0:Option (List GEv))(s0:Int)(s1:Int)(r)(h:BK a0 s0 s1=En r):jw pr NT (NR a0 s0) (NS a0 s0) s1 r:=by
 unfold BK at h
 repeat' first|(replace h:=qb h;obtain⟨d,g,h⟩:=h)|(replace h:=qd h;rcases h with⟨g,h⟩|⟨g,h⟩)
 all_goals (cases h<;>((first|refine qx ?_|refine jq ?_);simp only[go_sem,seval,NT,NR,jg,NS, *]<;>rfl))
theorem j1a (a0:Option (List GEv))(s0:Int){s1 d}(h:bB (BK a0 s0) s1=En d):X pr (.loop NT) (NR a0 s0 s1)=En (NS a0 s0 d):=ze (j09 a0 s0) h
def BJ (a0:Option (List GEv))(s0:Int):Option (Int⊕(Unit⊕Int)):=
 cond (decide (s0<((a0.getD []).length:Int)))
  (qa (qq (a0.getD []) s0) fun xd=>
  cond (decide (40<(xd.kind.length:Int)))
   (En (.inr (.inl ())))
   (cond (decide (6<((xd.names.getD []).length:Int)))
    (En (.inr (.inl ())))
    (cond (decide (8<((xd.values.getD []).length:Int)))
     (En (.inr (.inl ())))
     (cond (decide (200<(xd.text.length:Int)))
      (En (.inr (.inl ())))
      (qa (bB (BK a0 s0) 0) fun d85=>match d85 with
       | .inl d87=>
        En (.inr (.inl ()))
       | .inr d88=>
        En (.inl (qe .i64 (s0+1))))))))
  (En (.inr (.inr s0)))
def NU (a0:Option (List GEv))(s0:Int):bf:=⟨[(0,sl 5 vev a0,I),(5,Iv s0,I)],[]⟩
def NV (a0:Option (List GEv)):Unit⊕Int→je×bf
 | .inl d=>(.ret,⟨[(4,.bool I,I)],[]⟩)
 | .inr d=>(.exit 0,⟨[(0,sl 5 vev a0,I),(5,Iv d,I),(14,.bool I,I)],[]⟩)
theorem j4l (a0:Option (List GEv))(s0:Int)(r)(h:BJ a0 s0=En r):jw pr NW (NU a0) (NV a0) s0 r:=by
 unfold BJ at h
 repeat' first|(replace h:=qb h;obtain⟨d,g,h⟩:=h;with_reducible first|(replace g:=j1a a0 s0 g;rcases d with d|d<;>dsimp only[NR,NS,zg]at g h)|skip)|(replace h:=qd h;rcases h with⟨g,h⟩|⟨g,h⟩)
 all_goals (cases h<;>((first|refine qx ?_|refine jq ?_);simp only[go_sem,seval,NW,NU,jg,NV, *]<;>rfl))
theorem j2w (a0:Option (List GEv)){s0 d}(h:bB (BJ a0) s0=En d):X pr (.loop NW) (NU a0 s0)=En (NV a0 d):=ze (j4l a0) h
def f12 (a0:Option (List GEv))(a1:Int):Option Bool:=
 cond (decide (a1<((a0.getD []).length:Int)))
  (En I)
  (qa (bB (BJ a0) 0) fun d89=>match d89 with
   | .inl d91=>
    En I
   | .inr d92=>
    En Es)
theorem W12 {a0 a1 r}(h:f12 a0 a1=En r):qc pr (X pr) 12 [sl 5 vev a0,Iv a1]=En (.bool r,I):=by
 unfold f12 at h
 refine zd mP ?_
 repeat' first|(replace h:=qb h;obtain⟨d,g,h⟩:=h;with_reducible first|(replace g:=j2w a0 g;rcases d with d|d<;>dsimp only[NU,NV,zg]at g h)|skip)|(replace h:=qd h;rcases h with⟨g,h⟩|⟨g,h⟩)
 all_goals (cases h<;>(simp only[go_sem,seval,mP, *];exact⟨_,rfl⟩))
def Bf (a0:ar)(a1:bh)(a2:List UInt8)(s0:Int×Int):Option ((Int×Int)⊕((Int×Int))):=
 cond (decide (s0.2<((a1.uses.getD []).length:Int)))
  (qa (qq (a1.uses.getD []) s0.2) fun gQ=>
  qa (wC a0 gQ.k) fun v20=>
  qa (qq (a0.au.getD []) v20) fun v22=>
  cond (decide (v22.kind=a2))
   (En (.inl (qe .i64 (s0.1+gQ.n),qe .i64 (s0.2+1))))
   (En (.inl (s0.1,qe .i64 (s0.2+1)))))
  (En (.inr (s0.1,s0.2)))
def NY (a0:ar)(a1:bh)(a2:List UInt8)(s0:Int×Int):bf:=⟨[(2,.str a2,I),(3,.ai (aR a0),I),(4,.ai (aU a1),I),(7,Iv s0.1,I),(8,Iv s0.2,I)],[]⟩
def NZ (a0:ar)(a1:bh)(a2:List UInt8)(d:(Int×Int)):je×bf:=(.exit 0,⟨[(2,.str a2,I),(3,.ai (aR a0),I),(4,.ai (aU a1),I),(7,Iv d.1,I),(8,Iv d.2,I),(13,.bool I,I)],[]⟩)
theorem jw6 (a0:ar)(a1:bh)(a2:List UInt8)(s0:Int×Int)(r)(h:Bf a0 a1 a2 s0=En r):jw pr N0 (NY a0 a1 a2) (NZ a0 a1 a2) s0 r:=by
 unfold Bf at h
 repeat' first|(replace h:=qb h;obtain⟨d,g,h⟩:=h;with_reducible first|replace g:=Jm g|skip)|(replace h:=qd h;rcases h with⟨g,h⟩|⟨g,h⟩)
 all_goals (cases h<;>((first|refine qx ?_|refine jq ?_);simp only[go_sem,seval,N0,NY,jg,NZ, *]<;>rfl))
theorem js0 (a0:ar)(a1:bh)(a2:List UInt8){s0 d}(h:bB (Bf a0 a1 a2) s0=En d):X pr (.loop N0) (NY a0 a1 a2 s0)=En (NZ a0 a1 a2 d):=ze (jw6 a0 a1 a2) h
def Ht (a0:ar)(a1:bh)(a2:List UInt8):Option Int:=
 qa (bB (Bf a0 a1 a2) (0,0)) fun d25=>
 En d25.1
theorem ze6 {a0 a1 a2 r}(h:Ht a0 a1 a2=En r):qc pr (X pr) 306 [aR a0,aU a1,.str a2]=En (Iv r,I):=by
 unfold Ht at h
 refine zd xj ?_
 repeat' first|(replace h:=qb h;obtain⟨d,g,h⟩:=h;with_reducible first|(replace g:=js0 a0 a1 a2 g;dsimp only[NY,NZ,zg]at g h)|skip)|(replace h:=qd h;rcases h with⟨g,h⟩|⟨g,h⟩)
 all_goals (cases h<;>(simp only[go_sem,seval,xj, *];exact⟨_,rfl⟩))
def pL (a0:ar)(a1:bh):Option aY:=
 qa (wD a0 a1.product) fun v1=>
 qa (qq (a0.ae.getD []) v1) fun v3=>
 qa (qq (v3.aM.getD []) (qe .i64 (a1.version-1))) fun v5=>
 En v5
theorem N1 {a0 a1 r}(h:pL a0 a1=En r):qc pr (X pr) 204 [aR a0,aU a1]=En (aD r,I):=by
 unfold pL at h
 refine zd tA ?_
 repeat' first|(replace h:=qb h;obtain⟨d,g,h⟩:=h;with_reducible first|replace g:=Nh g|skip)|(replace h:=qd h;rcases h with⟨g,h⟩|⟨g,h⟩)
 all_goals (cases h<;>(simp only[go_sem,seval,tA,jg, *];exact⟨_,rfl⟩))
def Bb (a0:bh)(a1:jb)(s0:Bool×Int):Option ((Bool×Int)⊕((Bool×Int))):=
 cond (decide (s0.2<((a0.results.getD []).length:Int)))
  (qa (qq (a0.results.getD []) s0.2) fun ei=>
  cond (decide (ei.k=a1.k))
   (cond (decide (ei.a=a0.version))
    (cond (decide (a1.a≤ei.b))
     (En (.inl (decide (ei.b≤a1.b),qe .i64 (s0.2+1))))
     (En (.inl (I,qe .i64 (s0.2+1)))))
    (En (.inl (s0.1,qe .i64 (s0.2+1)))))
   (En (.inl (s0.1,qe .i64 (s0.2+1)))))
  (En (.inr (s0.1,s0.2)))
def N2 (a0:bh)(a1:jb)(s0:Bool×Int):bf:=⟨[(2,.ai (aU a0),I),(3,.ai (aT a1),I),(5,.bool s0.1,I),(6,Iv s0.2,I)],[]⟩
def N3 (a0:bh)(a1:jb)(d:(Bool×Int)):je×bf:=(.exit 0,⟨[(2,.ai (aU a0),I),(3,.ai (aT a1),I),(5,.bool d.1,I),(6,Iv d.2,I),(12,.bool I,I)],[]⟩)
theorem jso (a0:bh)(a1:jb)(s0:Bool×Int)(r)(h:Bb a0 a1 s0=En r):jw pr N4 (N2 a0 a1) (N3 a0 a1) s0 r:=by
 unfold Bb at h
 repeat' first|(replace h:=qb h;obtain⟨d,g,h⟩:=h)|(replace h:=qd h;rcases h with⟨g,h⟩|⟨g,h⟩)
 all_goals (cases h<;>((first|refine qx ?_|refine jq ?_);simp only[go_sem,seval,N4,N2,jg,N3, *]<;>rfl))
theorem jvz (a0:bh)(a1:jb){s0 d}(h:bB (Bb a0 a1) s0=En d):X pr (.loop N4) (N2 a0 a1 s0)=En (N3 a0 a1 d):=ze (jso a0 a1) h
def Hl (a0:bh)(a1:jb):Option Bool:=
 qa (bB (Bb a0 a1) (I,0)) fun d19=>
 En d19.1
theorem zc6 {a0 a1 r}(h:Hl a0 a1=En r):qc pr (X pr) 205 [aU a0,aT a1]=En (.bool r,I):=by
 unfold Hl at h
 refine zd xk ?_
 repeat' first|(replace h:=qb h;obtain⟨d,g,h⟩:=h;with_reducible first|(replace g:=jvz a0 a1 g;dsimp only[N2,N3,zg]at g h)|skip)|(replace h:=qd h;rcases h with⟨g,h⟩|⟨g,h⟩)
 all_goals (cases h<;>(simp only[go_sem,seval,xk, *];exact⟨_,rfl⟩))
def D3 (a0:ar)(a1:bh):Option Int:=
 qa (wD a0 a1.product) fun v1=>
 qa (qq (a0.ae.getD []) v1) fun v3=>
 En ((v3.aM.getD []).length:Int)
theorem jsa {a0 a1 r}(h:D3 a0 a1=En r):qc pr (X pr) 265 [aR a0,aU a1]=En (Iv r,I):=by
 unfold D3 at h
 refine zd tB ?_
 repeat' first|(replace h:=qb h;obtain⟨d,g,h⟩:=h;with_reducible first|replace g:=Nh g|skip)|(replace h:=qd h;rcases h with⟨g,h⟩|⟨g,h⟩)
 all_goals (cases h<;>(simp only[go_sem,seval,tB,jg, *];exact⟨_,rfl⟩))
def Bg (a0:ar)(a1:bh)(v1:aY)(s0:Int):Option (Int⊕(Unit⊕Int)):=
 cond (decide (s0<((v1.aB.getD []).length:Int)))
  (qa (qq (v1.aB.getD []) s0) fun dU=>
  qa (Ht a0 a1 dU.k) fun gQ=>
  cond (decide (gQ<dU.n))
   (En (.inr (.inl ())))
   (En (.inl (qe .i64 (s0+1)))))
  (En (.inr (.inr s0)))
def N5 (a0:ar)(a1:bh)(v1:aY)(s0:Int):bf:=⟨[(2,.ai (aR a0),I),(3,.ai (aU a1),I),(5,.ai (aD v1),I),(6,Iv s0,I)],[]⟩
def N6 (a0:ar)(a1:bh)(v1:aY):Unit⊕Int→je×bf
 | .inl d=>(.ret,⟨[(4,.bool I,I)],[]⟩)
 | .inr d=>(.exit 0,⟨[(2,.ai (aR a0),I),(3,.ai (aU a1),I),(5,.ai (aD v1),I),(6,Iv d,I),(14,.bool I,I)],[]⟩)
theorem jq0 (a0:ar)(a1:bh)(v1:aY)(s0:Int)(r)(h:Bg a0 a1 v1 s0=En r):jw pr N7 (N5 a0 a1 v1) (N6 a0 a1 v1) s0 r:=by
 unfold Bg at h
 repeat' first|(replace h:=qb h;obtain⟨d,g,h⟩:=h;with_reducible first|replace g:=ze6 g|skip)|(replace h:=qd h;rcases h with⟨g,h⟩|⟨g,h⟩)
 all_goals (cases h<;>((first|refine qx ?_|refine jq ?_);simp only[go_sem,seval,N7,N5,jg,N6, *]<;>rfl))
theorem jv4 (a0:ar)(a1:bh)(v1:aY){s0 d}(h:bB (Bg a0 a1 v1) s0=En d):X pr (.loop N7) (N5 a0 a1 v1 s0)=En (N6 a0 a1 v1 d):=ze (jq0 a0 a1 v1) h
def Hx (a0:ar)(a1:bh):Option Bool:=
 qa (pL a0 a1) fun v1=>
 qa (bB (Bg a0 a1 v1) 0) fun d21=>match d21 with
  | .inl d23=>
   En I
  | .inr d24=>
   En Es
theorem zc1 {a0 a1 r}(h:Hx a0 a1=En r):qc pr (X pr) 299 [aR a0,aU a1]=En (.bool r,I):=by
 unfold Hx at h
 refine zd xl ?_
 repeat' first|(replace h:=qb h;obtain⟨d,g,h⟩:=h;with_reducible first|replace g:=N1 g|(replace g:=jv4 a0 a1 _ g;rcases d with d|d<;>dsimp only[N5,N6,zg]at g h)|skip)|(replace h:=qd h;rcases h with⟨g,h⟩|⟨g,h⟩)
 all_goals (cases h<;>(simp only[go_sem,seval,xl, *];exact⟨_,rfl⟩))
def Be (a1:bh)(v1:aY)(s0:(Option (List (List UInt8)))×Int×Bool):Option (((Option (List (List UInt8)))×Int×Bool)⊕(((Option (List (List UInt8)))×Bool×Int))):=
 cond (decide (s0.2.1<((v1.aA.getD []).length:Int)))
  (qa (qq (v1.aA.getD []) s0.2.1) fun v22=>
  qa (Hl a1 v22) fun v24=>
  cond v24
   (En (.inl (s0.1,qe .i64 (s0.2.1+1),s0.2.2)))
   (cond s0.2.2
    (qa (bq s0.1 [v22.k]) fun v28=>
    En (.inl (v28,qe .i64 (s0.2.1+1),Es)))
    (cond s0.1.isNone
     (qa (bq s0.1 [v22.k]) fun v31=>
     En (.inl (v31,qe .i64 (s0.2.1+1),Es)))
     (E9))))
  (En (.inr (s0.1,s0.2.2,s0.2.1)))
def N8 (a1:bh)(v1:aY)(s0:(Option (List (List UInt8)))×Int×Bool):bf:=⟨[(3,.ai (aU a1),I),(5,.ai (aD v1),I),(6,sl 1 yf s0.1,s0.2.2),(7,Iv s0.2.1,I)],[]⟩
def N9 (a1:bh)(v1:aY)(d:((Option (List (List UInt8)))×Bool×Int)):je×bf:=(.exit 0,⟨[(3,.ai (aU a1),I),(5,.ai (aD v1),I),(6,sl 1 yf d.1,d.2.1),(7,Iv d.2.2,I),(15,.bool I,I)],[]⟩)
theorem jtt (a1:bh)(v1:aY)(s0:(Option (List (List UInt8)))×Int×Bool)(r)(h:Be a1 v1 s0=En r):jw pr Oa (N8 a1 v1) (N9 a1 v1) s0 r:=by
 unfold Be at h
 repeat' first|(replace h:=qb h;obtain⟨d,g,h⟩:=h;with_reducible first|replace g:=zc6 g|replace g:=q7s g|skip)|(replace h:=qd h;rcases h with⟨g,h⟩|⟨g,h⟩)
 all_goals (cases h<;>((first|refine qx ?_|refine jq ?_);simp only[go_sem,seval,Oa,N8,jg,N9, *]<;>rfl))
theorem jr7 (a1:bh)(v1:aY){s0 d}(h:bB (Be a1 v1) s0=En d):X pr (.loop Oa) (N8 a1 v1 s0)=En (N9 a1 v1 d):=ze (jtt a1 v1) h
def Hr (a0:ar)(a1:bh):Option ((Option (List (List UInt8)))×Bool):=
 qa (pL a0 a1) fun v1=>
 qa (bB (Be a1 v1) (E9,0,I)) fun d33=>
 En (d33.1,d33.2.1)
theorem zg1 {a0 a1 r}(h:Hr a0 a1=En r):qc pr (X pr) 154 [aR a0,aU a1]=En (sl 1 yf r.1,r.2):=by
 unfold Hr at h
 refine kr xm ?_
 repeat' first|(replace h:=qb h;obtain⟨d,g,h⟩:=h;with_reducible first|replace g:=N1 g|(replace g:=jr7 a1 _ g;dsimp only[N8,N9,zg]at g h)|skip)|(replace h:=qd h;rcases h with⟨g,h⟩|⟨g,h⟩)
 all_goals (cases h<;>(simp only[go_sem,seval,xm, *];exact⟨_,rfl⟩))
def yQ (a0:ar)(a1:bh)(s0:Int):Option (Int⊕(Unit⊕Int)):=
 cond (decide (s0<((a1.uses.getD []).length:Int)))
  (qa (qq (a1.uses.getD []) s0) fun v28=>
  qa (wC a0 v28.k) fun v30=>
  qa (qq (a0.au.getD []) v30) fun lF=>
  cond lF.held
   (En (.inr (.inl ())))
   (En (.inl (qe .i64 (s0+1)))))
  (En (.inr (.inr s0)))
def Ob (a0:ar)(a1:bh)(s0:Int):bf:=⟨[(2,.ai (aR a0),I),(3,.ai (.agg [.str a1.name,.str a1.product,Iv a1.version,sl 2 bp a1.uses,sl 3 q9 a1.results,.str a1.partner,.bool I,Iv a1.ah]),I),(5,Iv s0,I)],[]⟩
def Oc (a0:ar)(a1:bh):Unit⊕Int→je×bf
 | .inl d=>(.ret,⟨[(4,Iv 34,I)],[]⟩)
 | .inr d=>(.exit 0,⟨[(2,.ai (aR a0),I),(3,.ai (.agg [.str a1.name,.str a1.product,Iv a1.version,sl 2 bp a1.uses,sl 3 q9 a1.results,.str a1.partner,.bool I,Iv a1.ah]),I),(5,Iv d,I),(27,.bool I,I)],[]⟩)
theorem jur (a0:ar)(a1:bh)(s0:Int)(r)(h:yQ a0 a1 s0=En r):jw pr Od (Ob a0 a1) (Oc a0 a1) s0 r:=by
 unfold yQ at h
 repeat' first|(replace h:=qb h;obtain⟨d,g,h⟩:=h;with_reducible first|replace g:=Jm g|skip)|(replace h:=qd h;rcases h with⟨g,h⟩|⟨g,h⟩)
 all_goals (cases h<;>((first|refine qx ?_|refine jq ?_);simp only[go_sem,seval,Od,Ob,jg,Oc, *]<;>rfl))
theorem ju1 (a0:ar)(a1:bh){s0 d}(h:bB (yQ a0 a1) s0=En d):X pr (.loop Od) (Ob a0 a1 s0)=En (Oc a0 a1 d):=ze (jur a0 a1) h
def f266 (a0:ar)(a1:bh):Option Int:=
 cond a1.aq
  (En 21)
  (qa (D3 a0 (⟨a1.name,a1.product,a1.version,a1.uses,a1.results,a1.partner,I,a1.ah⟩)) fun v2=>
  cond (decide (a1.version=v2))
   (qa (Hx a0 (⟨a1.name,a1.product,a1.version,a1.uses,a1.results,a1.partner,I,a1.ah⟩)) fun v5=>
   cond v5
    (qa (Hr a0 (⟨a1.name,a1.product,a1.version,a1.uses,a1.results,a1.partner,I,a1.ah⟩)) fun v8=>
    cond (decide (0<((v8.1.getD []).length:Int)))
     (En 31)
     (qa (bB (yQ a0 a1) 0) fun d35=>match d35 with
      | .inl d37=>
       En 34
      | .inr d38=>
       En 0))
    (En 20))
   (En 32))
theorem zbi {a0 a1 r}(h:f266 a0 a1=En r):qc pr (X pr) 266 [.agg [.int .i64 a0.day,sl 5 jd a0.au,sl 4 qu a0.ae,sl 8 bI a0.units],.agg [.str a1.name,.str a1.product,.int .i64 a1.version,sl 2 bp a1.uses,sl 3 q9 a1.results,.str a1.partner,.bool a1.aq,.int .i64 a1.ah]]=En (.int .i64 r,I):=by
 unfold f266 at h
 refine zd xn ?_
 repeat' first|(replace h:=qb h;obtain⟨d,g,h⟩:=h;with_reducible first|replace g:=jsa g|replace g:=zc1 g|replace g:=zg1 g|(replace g:=ju1 a0 a1 g;rcases d with d|d<;>dsimp only[Ob,Oc,zg]at g h)|skip)|(replace h:=qd h;rcases h with⟨g,h⟩|⟨g,h⟩)
 all_goals (cases h<;>(simp only[go_sem,seval,xn, *];exact⟨_,rfl⟩))
end Go.Z
namespace Go.Z
open Go Go.Abs Go.W
def Ir (a0:aY)(s0:Int×(Option (List bn))×Bool):Option ((Int×(Option (List bn))×Bool)⊕((Int×(Option (List bn))×Bool))):=
 cond (decide (s0.1<((a0.aB.getD []).length:Int)))
  (qa (qq (a0.aB.getD []) s0.1) fun ei=>
  cond s0.2.2
   (qa (bq s0.2.1 [ei]) fun eN=>
   En (.inl (qe .i64 (s0.1+1),eN,Es)))
   (cond s0.2.1.isNone
    (qa (bq s0.2.1 [ei]) fun v20=>
    En (.inl (qe .i64 (s0.1+1),v20,Es)))
    (E9)))
  (En (.inr (s0.1,s0.2.1,s0.2.2)))
def Oe (a0:aY)(s0:Int×(Option (List bn))×Bool):bf:=⟨[(1,.ai (aD a0),I),(2,.ptr 0 0,I),(3,.ptr 1 0,I),(9,sl 2 bp a0.aB,I),(10,Lv a0.aB,I),(11,Iv s0.1,I)],[.cells [(Nl,I),(Nl,I)],.cells [(sl 2 bp s0.2.1,s0.2.2),(Nl,I)]]⟩
def Og (a0:aY)(d:(Int×(Option (List bn))×Bool)):je×bf:=(.exit 0,⟨[(1,.ai (aD a0),I),(2,.ptr 0 0,I),(3,.ptr 1 0,I),(9,sl 2 bp a0.aB,I),(10,Lv a0.aB,I),(11,Iv d.1,I),(12,.bool I,I)],[.cells [(Nl,I),(Nl,I)],.cells [(sl 2 bp d.2.1,d.2.2),(Nl,I)]]⟩)
theorem ju5 (a0:aY)(s0:Int×(Option (List bn))×Bool)(r)(h:Ir a0 s0=En r):jw pr Oh (Oe a0) (Og a0) s0 r:=by
 unfold Ir at h
 repeat' first|(replace h:=qb h;obtain⟨d,g,h⟩:=h;with_reducible first|replace g:=wz g|skip)|(replace h:=qd h;rcases h with⟨g,h⟩|⟨g,h⟩)
 all_goals (cases h<;>((first|refine qx ?_|refine jq ?_);simp only[go_sem,seval,Oh,Oe,jg,Og, *]<;>rfl))
theorem jvj (a0:aY){s0 d}(h:bB (Ir a0) s0=En d):X pr (.loop Oh) (Oe a0 s0)=En (Og a0 d):=ze (ju5 a0) h
def Iu (a0:aY)(d22:Int×(Option (List bn))×Bool)(s1:Int×(Option (List jb))×Bool):Option ((Int×(Option (List jb))×Bool)⊕((Int×(Option (List jb))×Bool))):=
 cond (decide (s1.1<((a0.aA.getD []).length:Int)))
  (qa (qq (a0.aA.getD []) s1.1) fun v37=>
  cond s1.2.2
   (qa (bq s1.2.1 [v37]) fun v40=>
   En (.inl (qe .i64 (s1.1+1),v40,Es)))
   (cond s1.2.1.isNone
    (qa (bq s1.2.1 [v37]) fun pV=>
    En (.inl (qe .i64 (s1.1+1),pV,Es)))
    (E9)))
  (En (.inr (s1.1,s1.2.1,s1.2.2)))
def Oi (a0:aY)(d22:Int×(Option (List bn))×Bool)(s1:Int×(Option (List jb))×Bool):bf:=⟨[(2,.ptr 0 0,I),(3,.ptr 1 0,I),(23,sl 3 q9 a0.aA,I),(24,Lv a0.aA,I),(25,Iv s1.1,I)],[.cells [(Nl,I),(Nl,I)],.cells [(sl 2 bp d22.2.1,d22.2.2),(sl 3 q9 s1.2.1,s1.2.2)]]⟩
def Oj (a0:aY)(d22:Int×(Option (List bn))×Bool)(d:(Int×(Option (List jb))×Bool)):je×bf:=(.exit 2,⟨[(2,.ptr 0 0,I),(3,.ptr 1 0,I),(23,sl 3 q9 a0.aA,I),(24,Lv a0.aA,I),(25,Iv d.1,I),(26,.bool I,I)],[.cells [(Nl,I),(Nl,I)],.cells [(sl 2 bp d22.2.1,d22.2.2),(sl 3 q9 d.2.1,d.2.2)]]⟩)
theorem jtu (a0:aY)(d22:Int×(Option (List bn))×Bool)(s1:Int×(Option (List jb))×Bool)(r)(h:Iu a0 d22 s1=En r):jw pr Ok (Oi a0 d22) (Oj a0 d22) s1 r:=by
 unfold Iu at h
 repeat' first|(replace h:=qb h;obtain⟨d,g,h⟩:=h;with_reducible first|replace g:=yG g|skip)|(replace h:=qd h;rcases h with⟨g,h⟩|⟨g,h⟩)
 all_goals (cases h<;>((first|refine qx ?_|refine jq ?_);simp only[go_sem,seval,Ok,Oi,jg,Oj, *]<;>rfl))
theorem jqg (a0:aY)(d22:Int×(Option (List bn))×Bool){s1 d}(h:bB (Iu a0 d22) s1=En d):X pr (.loop Ok) (Oi a0 d22 s1)=En (Oj a0 d22 d):=ze (jtu a0 d22) h
def BI (a0:aY):Option aY:=
 qa (bB (Ir a0) (0,E9,I)) fun d22=>
 qa (bB (Iu a0 d22) (0,E9,I)) fun d45=>
 En (⟨d22.2.1,d45.2.1⟩)
theorem jxb {a0 r}(h:BI a0=En r):qc pr (X pr) 117 [aD a0]=En (aD r,I):=by
 unfold BI at h
 refine zd tC ?_
 repeat' first|(replace h:=qb h;obtain⟨d,g,h⟩:=h;with_reducible first|(replace g:=jvj a0 g;dsimp only[Oe,Og,zg]at g h)|(replace g:=jqg a0 _ g;dsimp only[Oi,Oj,zg]at g h)|skip)|(replace h:=qd h;rcases h with⟨g,h⟩|⟨g,h⟩)
 all_goals (cases h<;>(simp only[go_sem,seval,tC, *];exact⟨_,rfl⟩))
def Iw (a0:aC)(v1:aY)(s0:Int×(Option (List aY))×Bool):Option ((Int×(Option (List aY))×Bool)⊕((Int×(Option (List aY))×Bool))):=
 cond (decide (s0.1<((a0.aM.getD []).length:Int)))
  (qa (qq (a0.aM.getD []) s0.1) fun v20=>
  qa (BI v20) fun v22=>
  cond s0.2.2
   (qa (bq s0.2.1 [v22]) fun v25=>
   En (.inl (qe .i64 (s0.1+1),v25,Es)))
   (cond s0.2.1.isNone
    (qa (bq s0.2.1 [v22]) fun v28=>
    En (.inl (qe .i64 (s0.1+1),v28,Es)))
    (E9)))
  (En (.inr (s0.1,s0.2.1,s0.2.2)))
def Ol (a0:aC)(v1:aY)(s0:Int×(Option (List aY))×Bool):bf:=⟨[(2,.ptr 0 0,I),(3,.ptr 1 0,I),(13,sl 2 yb a0.aM,I),(14,Lv a0.aM,I),(15,Iv s0.1,I)],[.cells [(.str [],I),(Nl,I),(Nl,I),(Nl,I)],.cells [(.str a0.name,I),(sl 2 bp v1.aB,I),(sl 3 q9 v1.aA,I),(sl 2 yb s0.2.1,s0.2.2)]]⟩
def Om (a0:aC)(v1:aY)(d:(Int×(Option (List aY))×Bool)):je×bf:=(.exit 0,⟨[(2,.ptr 0 0,I),(3,.ptr 1 0,I),(13,sl 2 yb a0.aM,I),(14,Lv a0.aM,I),(15,Iv d.1,I),(16,.bool I,I)],[.cells [(.str [],I),(Nl,I),(Nl,I),(Nl,I)],.cells [(.str a0.name,I),(sl 2 bp v1.aB,I),(sl 3 q9 v1.aA,I),(sl 2 yb d.2.1,d.2.2)]]⟩)
theorem j6u (a0:aC)(v1:aY)(s0:Int×(Option (List aY))×Bool)(r)(h:Iw a0 v1 s0=En r):jw pr Oo (Ol a0 v1) (Om a0 v1) s0 r:=by
 unfold Iw at h
 repeat' first|(replace h:=qb h;obtain⟨d,g,h⟩:=h;with_reducible first|replace g:=jxb g|replace g:=S8 g|skip)|(replace h:=qd h;rcases h with⟨g,h⟩|⟨g,h⟩)
 all_goals (cases h<;>((first|refine qx ?_|refine jq ?_);simp only[go_sem,seval,Oo,Ol,jg,Om, *]<;>rfl))
theorem jyu (a0:aC)(v1:aY){s0 d}(h:bB (Iw a0 v1) s0=En d):X pr (.loop Oo) (Ol a0 v1 s0)=En (Om a0 v1 d):=ze (j6u a0 v1) h
def f58 (a0:aC):Option aC:=
 qa (BI (⟨a0.dn,a0.dt⟩)) fun v1=>
 qa (bB (Iw a0 v1) (0,E9,I)) fun d30=>
 En (⟨a0.name,v1.aB,v1.aA,d30.2.1⟩)
theorem W58 {a0 r}(h:f58 a0=En r):qc pr (X pr) 58 [aP a0]=En (aP r,I):=by
 unfold f58 at h
 refine zd Jv ?_
 repeat' first|(replace h:=qb h;obtain⟨d,g,h⟩:=h;with_reducible first|replace g:=jxb g|(replace g:=jyu a0 _ g;dsimp only[Ol,Om,zg]at g h)|skip)|(replace h:=qd h;rcases h with⟨g,h⟩|⟨g,h⟩)
 all_goals (cases h<;>(simp only[go_sem,seval,Jv, *];exact⟨_,rfl⟩))
def Ix (a0:bh)(s0:Int×(Option (List bn))×Bool):Option ((Int×(Option (List bn))×Bool)⊕((Int×(Option (List bn))×Bool))):=
 cond (decide (s0.1<((a0.uses.getD []).length:Int)))
  (qa (qq (a0.uses.getD []) s0.1) fun ei=>
  cond s0.2.2
   (qa (bq s0.2.1 [ei]) fun eN=>
   En (.inl (qe .i64 (s0.1+1),eN,Es)))
   (cond s0.2.1.isNone
    (qa (bq s0.2.1 [ei]) fun v20=>
    En (.inl (qe .i64 (s0.1+1),v20,Es)))
    (E9)))
  (En (.inr (s0.1,s0.2.1,s0.2.2)))
def Oq (a0:bh)(s0:Int×(Option (List bn))×Bool):bf:=⟨[(1,.ai (aU a0),I),(2,.ptr 0 0,I),(3,.ptr 1 0,I),(22,sl 2 bp a0.uses,I),(23,Lv a0.uses,I),(24,Iv s0.1,I)],[.cells [(.str [],I),(.str [],I),(Iv 0,I),(Nl,I),(Nl,I),(.str [],I),(.bool I,I),(Iv 0,I)],.cells [(.str a0.name,I),(.str a0.product,I),(Iv a0.version,I),(sl 2 bp s0.2.1,s0.2.2),(Nl,I),(.str a0.partner,I),(.bool a0.aq,I),(Iv a0.ah,I)]]⟩
def Ot (a0:bh)(d:(Int×(Option (List bn))×Bool)):je×bf:=(.exit 0,⟨[(1,.ai (aU a0),I),(2,.ptr 0 0,I),(3,.ptr 1 0,I),(22,sl 2 bp a0.uses,I),(23,Lv a0.uses,I),(24,Iv d.1,I),(25,.bool I,I)],[.cells [(.str [],I),(.str [],I),(Iv 0,I),(Nl,I),(Nl,I),(.str [],I),(.bool I,I),(Iv 0,I)],.cells [(.str a0.name,I),(.str a0.product,I),(Iv a0.version,I),(sl 2 bp d.2.1,d.2.2),(Nl,I),(.str a0.partner,I),(.bool a0.aq,I),(Iv a0.ah,I)]]⟩)
theorem j54 (a0:bh)(s0:Int×(Option (List bn))×Bool)(r)(h:Ix a0 s0=En r):jw pr Ou (Oq a0) (Ot a0) s0 r:=by
 unfold Ix at h
 repeat' first|(replace h:=qb h;obtain⟨d,g,h⟩:=h;with_reducible first|replace g:=wz g|skip)|(replace h:=qd h;rcases h with⟨g,h⟩|⟨g,h⟩)
 all_goals (cases h<;>((first|refine qx ?_|refine jq ?_);simp only[go_sem,seval,Ou,Oq,jg,Ot, *]<;>rfl))
theorem j03 (a0:bh){s0 d}(h:bB (Ix a0) s0=En d):X pr (.loop Ou) (Oq a0 s0)=En (Ot a0 d):=ze (j54 a0) h
def Iy (a0:bh)(d22:Int×(Option (List bn))×Bool)(s1:Int×(Option (List jb))×Bool):Option ((Int×(Option (List jb))×Bool)⊕((Int×(Option (List jb))×Bool))):=
 cond (decide (s1.1<((a0.results.getD []).length:Int)))
  (qa (qq (a0.results.getD []) s1.1) fun v37=>
  cond s1.2.2
   (qa (bq s1.2.1 [v37]) fun v40=>
   En (.inl (qe .i64 (s1.1+1),v40,Es)))
   (cond s1.2.1.isNone
    (qa (bq s1.2.1 [v37]) fun pV=>
    En (.inl (qe .i64 (s1.1+1),pV,Es)))
    (E9)))
  (En (.inr (s1.1,s1.2.1,s1.2.2)))
def Ov (a0:bh)(d22:Int×(Option (List bn))×Bool)(s1:Int×(Option (List jb))×Bool):bf:=⟨[(2,.ptr 0 0,I),(3,.ptr 1 0,I),(36,sl 3 q9 a0.results,I),(37,Lv a0.results,I),(38,Iv s1.1,I)],[.cells [(.str [],I),(.str [],I),(Iv 0,I),(Nl,I),(Nl,I),(.str [],I),(.bool I,I),(Iv 0,I)],.cells [(.str a0.name,I),(.str a0.product,I),(Iv a0.version,I),(sl 2 bp d22.2.1,d22.2.2),(sl 3 q9 s1.2.1,s1.2.2),(.str a0.partner,I),(.bool a0.aq,I),(Iv a0.ah,I)]]⟩
def Ow (a0:bh)(d22:Int×(Option (List bn))×Bool)(d:(Int×(Option (List jb))×Bool)):je×bf:=(.exit 2,⟨[(2,.ptr 0 0,I),(3,.ptr 1 0,I),(36,sl 3 q9 a0.results,I),(37,Lv a0.results,I),(38,Iv d.1,I),(39,.bool I,I)],[.cells [(.str [],I),(.str [],I),(Iv 0,I),(Nl,I),(Nl,I),(.str [],I),(.bool I,I),(Iv 0,I)],.cells [(.str a0.name,I),(.str a0.product,I),(Iv a0.version,I),(sl 2 bp d22.2.1,d22.2.2),(sl 3 q9 d.2.1,d.2.2),(.str a0.partner,I),(.bool a0.aq,I),(Iv a0.ah,I)]]⟩)
theorem j7i (a0:bh)(d22:Int×(Option (List bn))×Bool)(s1:Int×(Option (List jb))×Bool)(r)(h:Iy a0 d22 s1=En r):jw pr Ox (Ov a0 d22) (Ow a0 d22) s1 r:=by
 unfold Iy at h
 repeat' first|(replace h:=qb h;obtain⟨d,g,h⟩:=h;with_reducible first|replace g:=yG g|skip)|(replace h:=qd h;rcases h with⟨g,h⟩|⟨g,h⟩)
 all_goals (cases h<;>((first|refine qx ?_|refine jq ?_);simp only[go_sem,seval,Ox,Ov,jg,Ow, *]<;>rfl))
theorem j63 (a0:bh)(d22:Int×(Option (List bn))×Bool){s1 d}(h:bB (Iy a0 d22) s1=En d):X pr (.loop Ox) (Ov a0 d22 s1)=En (Ow a0 d22 d):=ze (j7i a0 d22) h
def f59 (a0:bh):Option bh:=
 qa (bB (Ix a0) (0,E9,I)) fun d22=>
 qa (bB (Iy a0 d22) (0,E9,I)) fun d45=>
 En (⟨a0.name,a0.product,a0.version,d22.2.1,d45.2.1,a0.partner,a0.aq,a0.ah⟩)
theorem W59 {a0 r}(h:f59 a0=En r):qc pr (X pr) 59 [aU a0]=En (aU r,I):=by
 unfold f59 at h
 refine zd Jw ?_
 repeat' first|(replace h:=qb h;obtain⟨d,g,h⟩:=h;with_reducible first|(replace g:=j03 a0 g;dsimp only[Oq,Ot,zg]at g h)|(replace g:=j63 a0 _ g;dsimp only[Ov,Ow,zg]at g h)|skip)|(replace h:=qd h;rcases h with⟨g,h⟩|⟨g,h⟩)
 all_goals (cases h<;>(simp only[go_sem,seval,Jw, *];exact⟨_,rfl⟩))
def Iz (a0:ar)(s0:Int×(Option (List jc))×Bool):Option ((Int×(Option (List jc))×Bool)⊕((Int×(Option (List jc))×Bool))):=
 cond (decide (s0.1<((a0.au.getD []).length:Int)))
  (qa (qq (a0.au.getD []) s0.1) fun ei=>
  cond s0.2.2
   (qa (bq s0.2.1 [ei]) fun eN=>
   En (.inl (qe .i64 (s0.1+1),eN,Es)))
   (cond s0.2.1.isNone
    (qa (bq s0.2.1 [ei]) fun v20=>
    En (.inl (qe .i64 (s0.1+1),v20,Es)))
    (E9)))
  (En (.inr (s0.1,s0.2.1,s0.2.2)))
def Oy (a0:ar)(s0:Int×(Option (List jc))×Bool):bf:=⟨[(1,.ai (aR a0),I),(2,.ptr 0 0,I),(3,.ptr 1 0,I),(14,sl 5 jd a0.au,I),(15,Lv a0.au,I),(16,Iv s0.1,I)],[kZ,.cells [(Iv a0.day,I),(sl 5 jd s0.2.1,s0.2.2),(Nl,I),(Nl,I)]]⟩
def Oz (a0:ar)(d:(Int×(Option (List jc))×Bool)):je×bf:=(.exit 0,⟨[(1,.ai (aR a0),I),(2,.ptr 0 0,I),(3,.ptr 1 0,I),(14,sl 5 jd a0.au,I),(15,Lv a0.au,I),(16,Iv d.1,I),(17,.bool I,I)],[kZ,.cells [(Iv a0.day,I),(sl 5 jd d.2.1,d.2.2),(Nl,I),(Nl,I)]]⟩)
theorem j1u (a0:ar)(s0:Int×(Option (List jc))×Bool)(r)(h:Iz a0 s0=En r):jw pr OA (Oy a0) (Oz a0) s0 r:=by
 unfold Iz at h
 repeat' first|(replace h:=qb h;obtain⟨d,g,h⟩:=h;with_reducible first|replace g:=LD g|skip)|(replace h:=qd h;rcases h with⟨g,h⟩|⟨g,h⟩)
 all_goals (cases h<;>((first|refine qx ?_|refine jq ?_);simp only[go_sem,seval,OA,Oy,jg,Oz, *]<;>rfl))
theorem j7q (a0:ar){s0 d}(h:bB (Iz a0) s0=En d):X pr (.loop OA) (Oy a0 s0)=En (Oz a0 d):=ze (j1u a0) h
def IA (a0:ar)(d22:Int×(Option (List jc))×Bool)(s1:Int×(Option (List aC))×Bool):Option ((Int×(Option (List aC))×Bool)⊕((Int×(Option (List aC))×Bool))):=
 cond (decide (s1.1<((a0.ae.getD []).length:Int)))
  (qa (qq (a0.ae.getD []) s1.1) fun wW=>
  qa (f58 wW) fun pV=>
  cond s1.2.2
   (qa (bq s1.2.1 [pV]) fun v46=>
   En (.inl (qe .i64 (s1.1+1),v46,Es)))
   (cond s1.2.1.isNone
    (qa (bq s1.2.1 [pV]) fun v49=>
    En (.inl (qe .i64 (s1.1+1),v49,Es)))
    (E9)))
  (En (.inr (s1.1,s1.2.1,s1.2.2)))
def OB (a0:ar)(d22:Int×(Option (List jc))×Bool)(s1:Int×(Option (List aC))×Bool):bf:=⟨[(1,.ai (aR a0),I),(2,.ptr 0 0,I),(3,.ptr 1 0,I),(28,sl 4 qu a0.ae,I),(29,Lv a0.ae,I),(30,Iv s1.1,I)],[kZ,.cells [(Iv a0.day,I),(sl 5 jd d22.2.1,d22.2.2),(sl 4 qu s1.2.1,s1.2.2),(Nl,I)]]⟩
def OC (a0:ar)(d22:Int×(Option (List jc))×Bool)(d:(Int×(Option (List aC))×Bool)):je×bf:=(.exit 2,⟨[(1,.ai (aR a0),I),(2,.ptr 0 0,I),(3,.ptr 1 0,I),(28,sl 4 qu a0.ae,I),(29,Lv a0.ae,I),(30,Iv d.1,I),(31,.bool I,I)],[kZ,.cells [(Iv a0.day,I),(sl 5 jd d22.2.1,d22.2.2),(sl 4 qu d.2.1,d.2.2),(Nl,I)]]⟩)
theorem jy1 (a0:ar)(d22:Int×(Option (List jc))×Bool)(s1:Int×(Option (List aC))×Bool)(r)(h:IA a0 d22 s1=En r):jw pr OD (OB a0 d22) (OC a0 d22) s1 r:=by
 unfold IA at h
 repeat' first|(replace h:=qb h;obtain⟨d,g,h⟩:=h;with_reducible first|replace g:=W58 g|replace g:=S9 g|skip)|(replace h:=qd h;rcases h with⟨g,h⟩|⟨g,h⟩)
 all_goals (cases h<;>((first|refine qx ?_|refine jq ?_);simp only[go_sem,seval,OD,OB,jg,OC, *]<;>rfl))
theorem j10 (a0:ar)(d22:Int×(Option (List jc))×Bool){s1 d}(h:bB (IA a0 d22) s1=En d):X pr (.loop OD) (OB a0 d22 s1)=En (OC a0 d22 d):=ze (jy1 a0 d22) h
def IB (a0:ar)(d22:Int×(Option (List jc))×Bool)(d51:Int×(Option (List aC))×Bool)(s2:Int×(Option (List bh))×Bool):Option ((Int×(Option (List bh))×Bool)⊕((Int×(Option (List bh))×Bool))):=
 cond (decide (s2.1<((a0.units.getD []).length:Int)))
  (qa (qq (a0.units.getD []) s2.1) fun v70=>
  qa (f59 v70) fun v72=>
  cond s2.2.2
   (qa (bq s2.2.1 [v72]) fun v75=>
   En (.inl (qe .i64 (s2.1+1),v75,Es)))
   (cond s2.2.1.isNone
    (qa (bq s2.2.1 [v72]) fun Nn=>
    En (.inl (qe .i64 (s2.1+1),Nn,Es)))
    (E9)))
  (En (.inr (s2.1,s2.2.1,s2.2.2)))
def OE (a0:ar)(d22:Int×(Option (List jc))×Bool)(d51:Int×(Option (List aC))×Bool)(s2:Int×(Option (List bh))×Bool):bf:=⟨[(2,.ptr 0 0,I),(3,.ptr 1 0,I),(43,sl 8 bI a0.units,I),(44,Lv a0.units,I),(45,Iv s2.1,I)],[kZ,.cells [(Iv a0.day,I),(sl 5 jd d22.2.1,d22.2.2),(sl 4 qu d51.2.1,d51.2.2),(sl 8 bI s2.2.1,s2.2.2)]]⟩
def OG (a0:ar)(d22:Int×(Option (List jc))×Bool)(d51:Int×(Option (List aC))×Bool)(d:(Int×(Option (List bh))×Bool)):je×bf:=(.exit 4,⟨[(2,.ptr 0 0,I),(3,.ptr 1 0,I),(43,sl 8 bI a0.units,I),(44,Lv a0.units,I),(45,Iv d.1,I),(46,.bool I,I)],[kZ,.cells [(Iv a0.day,I),(sl 5 jd d22.2.1,d22.2.2),(sl 4 qu d51.2.1,d51.2.2),(sl 8 bI d.2.1,d.2.2)]]⟩)
theorem j7r (a0:ar)(d22:Int×(Option (List jc))×Bool)(d51:Int×(Option (List aC))×Bool)(s2:Int×(Option (List bh))×Bool)(r)(h:IB a0 d22 d51 s2=En r):jw pr OH (OE a0 d22 d51) (OG a0 d22 d51) s2 r:=by
 unfold IB at h
 repeat' first|(replace h:=qb h;obtain⟨d,g,h⟩:=h;with_reducible first|replace g:=W59 g|replace g:=Ta g|skip)|(replace h:=qd h;rcases h with⟨g,h⟩|⟨g,h⟩)
 all_goals (cases h<;>((first|refine qx ?_|refine jq ?_);simp only[go_sem,seval,OH,OE,jg,OG, *]<;>rfl))
theorem j2x (a0:ar)(d22:Int×(Option (List jc))×Bool)(d51:Int×(Option (List aC))×Bool){s2 d}(h:bB (IB a0 d22 d51) s2=En d):X pr (.loop OH) (OE a0 d22 d51 s2)=En (OG a0 d22 d51 d):=ze (j7r a0 d22 d51) h
def f18 (a0:ar):Option ar:=
 qa (bB (Iz a0) (0,E9,I)) fun d22=>
 qa (bB (IA a0 d22) (0,E9,I)) fun d51=>
 qa (bB (IB a0 d22 d51) (0,E9,I)) fun d80=>
 En (⟨a0.day,d22.2.1,d51.2.1,d80.2.1⟩)
theorem W18 {a0 r}(h:f18 a0=En r):qc pr (X pr) 18 [aR a0]=En (aR r,I):=by
 unfold f18 at h
 refine zd Jx ?_
 repeat' first|(replace h:=qb h;obtain⟨d,g,h⟩:=h;with_reducible first|(replace g:=j7q a0 g;dsimp only[Oy,Oz,zg]at g h)|(replace g:=j10 a0 _ g;dsimp only[OB,OC,zg]at g h)|(replace g:=j2x a0 _ _ g;dsimp only[OE,OG,zg]at g h)|skip)|(replace h:=qd h;rcases h with⟨g,h⟩|⟨g,h⟩)
 all_goals (cases h<;>(simp only[go_sem,seval,Jx, *];exact⟨_,rfl⟩))
end Go.Z
namespace Go.Z
open Go Go.Abs Go.W
def f88 (a0:Int)(a1:Int)(a2:Int):Option Bool:=
 cond (decide (a0<a1))
  (En Es)
  (En (decide (a2<a0)))
theorem X7 {a0 a1 a2 r}(h:f88 a0 a1 a2=En r):qc pr (X pr) 88 [Iv a0,Iv a1,Iv a2]=En (.bool r,I):=by
 unfold f88 at h
 refine zd Jy ?_
 repeat' first|(replace h:=qd h;rcases h with⟨g,h⟩|⟨g,h⟩)
 all_goals (cases h<;>(simp only[go_sem,seval,Jy, *];exact⟨_,rfl⟩))
end Go.Z
namespace Go.Z
open Go Go.Abs Go.W
def LK (a0:Int)(a1:ar)(a2:List UInt8):Option Bool:=
 qa (qq (a1.au.getD []) a0) fun v1=>
 En (decide (v1.name=a2))
theorem zba (hp:qh){a0 a1 a2 r}(h:LK a0 a1 a2=En r):qm pr (X pr) 119 [Iv a0,.ai (aR a1),.ai (.str a2)] hp=En (.bool r,I,hp):=by
 unfold LK at h
 obtain⟨v1,h2,h⟩:=qb h
 have hr:decide (v1.name=a2)=r:=En.inj h
 subst hr
 rw[qj (show pr.bG 119=En tD from rfl) (by simp)]
 simp only[go_sem,seval,tD,zh h2]<;>rfl
def He (a0:Int)(ax:ar)(bY:List UInt8)(s0:Int):Option (Int⊕(Int⊕Int)):=
 cond (decide (s0<a0))
  (qa (LK s0 ax bY) fun v10=>
  cond v10
   (En (.inr (.inl s0)))
   (En (.inl (qe .i64 (s0+1)))))
  (En (.inr (.inr s0)))
def OI (a0:Int)(ax:ar)(bY:List UInt8)(s0:Int):bf:=⟨[(1,.fn (.func 119) [] [.ai (aR ax),.ai (.str bY)],I),(5,Iv (-1),I),(7,Iv a0,I),(8,Iv s0,I)],[]⟩
def OJ (a0:Int)(ax:ar)(bY:List UInt8):Int⊕Int→je×bf
 | .inl d=>(.exit 0,⟨[(5,Iv d,I)],[]⟩)
 | .inr d=>(.exit 0,⟨[(1,.fn (.func 119) [] [.ai (aR ax),.ai (.str bY)],I),(5,Iv (-1),I),(7,Iv a0,I),(8,Iv d,I),(9,.bool I,I)],[]⟩)
theorem jps (a0:Int)(ax:ar)(bY:List UInt8)(s0:Int)(r)(h:He a0 ax bY s0=En r):jw pr vQ (OI a0 ax bY) (OJ a0 ax bY) s0 r:=by
 unfold He at h
 repeat' first|(replace h:=qb h;obtain⟨d,g,h⟩:=h;with_reducible first|replace g:=zba [] g|skip)|(replace h:=qd h;rcases h with⟨g,h⟩|⟨g,h⟩)
 all_goals (cases h<;>((first|refine qx ?_|refine jq ?_);simp only[go_sem,seval,vQ,OI,OJ, *]<;>rfl))
theorem jmz (a0:Int)(ax:ar)(bY:List UInt8){s0 d}(h:bB (He a0 ax bY) s0=En d):X pr (.loop vQ) (OI a0 ax bY s0)=En (OJ a0 ax bY d):=ze (jps a0 ax bY) h
def Hd (a0:Int)(ax:ar)(bY:List UInt8):Option Int:=
 qa (bB (He a0 ax bY) 0) fun d13=>match d13 with
  | .inl d15=>
   En d15
  | .inr d16=>
   En (-1)
theorem j0g {a0 ax bY r}(h:Hd a0 ax bY=En r):qc pr (X pr) 118 [Iv a0,.fn (.func 119) [] [.ai (aR ax),.ai (.str bY)]]=En (Iv r,I):=by
 unfold Hd at h
 refine zd ln ?_
 repeat' first|(replace h:=qb h;obtain⟨d,g,h⟩:=h;with_reducible first|(replace g:=jmz a0 ax bY g;rcases d with d|d<;>dsimp only[OI,OJ,zg]at g h)|skip)|(replace h:=qd h;rcases h with⟨g,h⟩|⟨g,h⟩)
 all_goals (cases h<;>(simp only[go_sem,seval,ln, *];exact⟨_,rfl⟩))
def f64 (a0:ar)(a1:List UInt8):Option Int:=
 qa (Hd ((a0.au.getD []).length:Int) a0 a1) fun v1=>
 En v1
theorem EY {a0 a1 r}(h:f64 a0 a1=En r):qc pr (X pr) 64 [aR a0,.str a1]=En (Iv r,I):=by
 unfold f64 at h
 refine zd Jz ?_
 repeat' first|(replace h:=qb h;obtain⟨d,g,h⟩:=h;with_reducible first|replace g:=j0g g|skip)|(replace h:=qd h;rcases h with⟨g,h⟩|⟨g,h⟩)
 all_goals (cases h<;>(simp only[go_sem,seval,Jz, *];exact⟨_,rfl⟩))
def f206 (a0:Int)(a1:ar)(a2:List UInt8):Option Bool:=
 qa (qq (a1.ae.getD []) a0) fun v1=>
 En (decide (v1.name=a2))
theorem zig (hp:qh){a0 a1 a2 r}(h:f206 a0 a1 a2=En r):qm pr (X pr) 206 [Iv a0,.ai (aR a1),.ai (.str a2)] hp=En (.bool r,I,hp):=by
 unfold f206 at h
 obtain⟨v1,h2,h⟩:=qb h
 have hr:decide (v1.name=a2)=r:=En.inj h
 subst hr
 rw[qj (show pr.bG 206=En tE from rfl) (by simp)]
 simp only[go_sem,seval,tE,zh h2]<;>rfl
def Hg (a0:Int)(ax:ar)(bY:List UInt8)(s0:Int):Option (Int⊕(Int⊕Int)):=
 cond (decide (s0<a0))
  (qa (f206 s0 ax bY) fun v10=>
  cond v10
   (En (.inr (.inl s0)))
   (En (.inl (qe .i64 (s0+1)))))
  (En (.inr (.inr s0)))
def OL (a0:Int)(ax:ar)(bY:List UInt8)(s0:Int):bf:=⟨[(1,.fn (.func 206) [] [.ai (aR ax),.ai (.str bY)],I),(5,Iv (-1),I),(7,Iv a0,I),(8,Iv s0,I)],[]⟩
def OM (a0:Int)(ax:ar)(bY:List UInt8):Int⊕Int→je×bf
 | .inl d=>(.exit 0,⟨[(5,Iv d,I)],[]⟩)
 | .inr d=>(.exit 0,⟨[(1,.fn (.func 206) [] [.ai (aR ax),.ai (.str bY)],I),(5,Iv (-1),I),(7,Iv a0,I),(8,Iv d,I),(9,.bool I,I)],[]⟩)
theorem jm1 (a0:Int)(ax:ar)(bY:List UInt8)(s0:Int)(r)(h:Hg a0 ax bY s0=En r):jw pr vQ (OL a0 ax bY) (OM a0 ax bY) s0 r:=by
 unfold Hg at h
 repeat' first|(replace h:=qb h;obtain⟨d,g,h⟩:=h;with_reducible first|replace g:=zig [] g|skip)|(replace h:=qd h;rcases h with⟨g,h⟩|⟨g,h⟩)
 all_goals (cases h<;>((first|refine qx ?_|refine jq ?_);simp only[go_sem,seval,vQ,OL,OM, *]<;>rfl))
theorem jpd (a0:Int)(ax:ar)(bY:List UInt8){s0 d}(h:bB (Hg a0 ax bY) s0=En d):X pr (.loop vQ) (OL a0 ax bY s0)=En (OM a0 ax bY d):=ze (jm1 a0 ax bY) h
def Hf (a0:Int)(ax:ar)(bY:List UInt8):Option Int:=
 qa (bB (Hg a0 ax bY) 0) fun d13=>match d13 with
  | .inl d15=>
   En d15
  | .inr d16=>
   En (-1)
theorem j2o {a0 ax bY r}(h:Hf a0 ax bY=En r):qc pr (X pr) 118 [Iv a0,.fn (.func 206) [] [.ai (aR ax),.ai (.str bY)]]=En (Iv r,I):=by
 unfold Hf at h
 refine zd ln ?_
 repeat' first|(replace h:=qb h;obtain⟨d,g,h⟩:=h;with_reducible first|(replace g:=jpd a0 ax bY g;rcases d with d|d<;>dsimp only[OL,OM,zg]at g h)|skip)|(replace h:=qd h;rcases h with⟨g,h⟩|⟨g,h⟩)
 all_goals (cases h<;>(simp only[go_sem,seval,ln, *];exact⟨_,rfl⟩))
def oq (a0:ar)(a1:List UInt8):Option Int:=
 qa (Hf ((a0.ae.getD []).length:Int) a0 a1) fun v1=>
 En v1
theorem vL {a0 a1 r}(h:oq a0 a1=En r):qc pr (X pr) 161 [aR a0,.str a1]=En (Iv r,I):=by
 unfold oq at h
 refine zd tF ?_
 repeat' first|(replace h:=qb h;obtain⟨d,g,h⟩:=h;with_reducible first|replace g:=j2o g|skip)|(replace h:=qd h;rcases h with⟨g,h⟩|⟨g,h⟩)
 all_goals (cases h<;>(simp only[go_sem,seval,tF, *];exact⟨_,rfl⟩))
def LN (a0:Int)(a1:ar)(a2:List UInt8):Option Bool:=
 qa (qq (a1.units.getD []) a0) fun v1=>
 En (decide (v1.name=a2))
theorem zbk (hp:qh){a0 a1 a2 r}(h:LN a0 a1 a2=En r):qm pr (X pr) 124 [Iv a0,.ai (aR a1),.ai (.str a2)] hp=En (.bool r,I,hp):=by
 unfold LN at h
 obtain⟨v1,h2,h⟩:=qb h
 have hr:decide (v1.name=a2)=r:=En.inj h
 subst hr
 rw[qj (show pr.bG 124=En tG from rfl) (by simp)]
 simp only[go_sem,seval,tG,zh h2]<;>rfl
def Hj (a0:Int)(ax:ar)(bY:List UInt8)(s0:Int):Option (Int⊕(Int⊕Int)):=
 cond (decide (s0<a0))
  (qa (LN s0 ax bY) fun v10=>
  cond v10
   (En (.inr (.inl s0)))
   (En (.inl (qe .i64 (s0+1)))))
  (En (.inr (.inr s0)))
def OO (a0:Int)(ax:ar)(bY:List UInt8)(s0:Int):bf:=⟨[(1,.fn (.func 124) [] [.ai (aR ax),.ai (.str bY)],I),(5,Iv (-1),I),(7,Iv a0,I),(8,Iv s0,I)],[]⟩
def OP (a0:Int)(ax:ar)(bY:List UInt8):Int⊕Int→je×bf
 | .inl d=>(.exit 0,⟨[(5,Iv d,I)],[]⟩)
 | .inr d=>(.exit 0,⟨[(1,.fn (.func 124) [] [.ai (aR ax),.ai (.str bY)],I),(5,Iv (-1),I),(7,Iv a0,I),(8,Iv d,I),(9,.bool I,I)],[]⟩)
theorem jo2 (a0:Int)(ax:ar)(bY:List UInt8)(s0:Int)(r)(h:Hj a0 ax bY s0=En r):jw pr vQ (OO a0 ax bY) (OP a0 ax bY) s0 r:=by
 unfold Hj at h
 repeat' first|(replace h:=qb h;obtain⟨d,g,h⟩:=h;with_reducible first|replace g:=zbk [] g|skip)|(replace h:=qd h;rcases h with⟨g,h⟩|⟨g,h⟩)
 all_goals (cases h<;>((first|refine qx ?_|refine jq ?_);simp only[go_sem,seval,vQ,OO,OP, *]<;>rfl))
theorem joy (a0:Int)(ax:ar)(bY:List UInt8){s0 d}(h:bB (Hj a0 ax bY) s0=En d):X pr (.loop vQ) (OO a0 ax bY s0)=En (OP a0 ax bY d):=ze (jo2 a0 ax bY) h
def Hh (a0:Int)(ax:ar)(bY:List UInt8):Option Int:=
 qa (bB (Hj a0 ax bY) 0) fun d13=>match d13 with
  | .inl d15=>
   En d15
  | .inr d16=>
   En (-1)
theorem j4v {a0 ax bY r}(h:Hh a0 ax bY=En r):qc pr (X pr) 118 [Iv a0,.fn (.func 124) [] [.ai (aR ax),.ai (.str bY)]]=En (Iv r,I):=by
 unfold Hh at h
 refine zd ln ?_
 repeat' first|(replace h:=qb h;obtain⟨d,g,h⟩:=h;with_reducible first|(replace g:=joy a0 ax bY g;rcases d with d|d<;>dsimp only[OO,OP,zg]at g h)|skip)|(replace h:=qd h;rcases h with⟨g,h⟩|⟨g,h⟩)
 all_goals (cases h<;>(simp only[go_sem,seval,ln, *];exact⟨_,rfl⟩))
def f76 (a0:ar)(a1:List UInt8):Option Int:=
 qa (Hh ((a0.units.getD []).length:Int) a0 a1) fun v1=>
 En v1
theorem zQ {a0 a1 r}(h:f76 a0 a1=En r):qc pr (X pr) 76 [aR a0,.str a1]=En (Iv r,I):=by
 unfold f76 at h
 refine zd JA ?_
 repeat' first|(replace h:=qb h;obtain⟨d,g,h⟩:=h;with_reducible first|replace g:=j4v g|skip)|(replace h:=qd h;rcases h with⟨g,h⟩|⟨g,h⟩)
 all_goals (cases h<;>(simp only[go_sem,seval,JA, *];exact⟨_,rfl⟩))
def Ei (a0:ar)(a1:Int)(a2:List UInt8):Option Bool:=
 cond (decide (a1=108))
  (qa (f64 a0 a2) fun v2=>
  En (decide (0≤v2)))
  (cond (decide (a1=112))
   (qa (oq a0 a2) fun v5=>
   En (decide (0≤v5)))
   (cond (decide (a1=117))
    (qa (f76 a0 a2) fun v8=>
    En (decide (0≤v8)))
    (En Es)))
theorem jq9 {a0 a1 a2 r}(h:Ei a0 a1 a2=En r):qc pr (X pr) 167 [aR a0,.int .i32 a1,.str a2]=En (.bool r,I):=by
 unfold Ei at h
 refine zd tH ?_
 repeat' first|(replace h:=qb h;obtain⟨d,g,h⟩:=h;with_reducible first|replace g:=EY g|replace g:=vL g|replace g:=zQ g|skip)|(replace h:=qd h;rcases h with⟨g,h⟩|⟨g,h⟩)
 all_goals (cases h<;>(simp only[go_sem,seval,tH, *];exact⟨_,rfl⟩))
def D4 (a0:aC):Option Int:=
 En ((a0.aM.getD []).length:Int)
theorem jth {a0 r}(h:D4 a0=En r):qc pr (X pr) 162 [aP a0]=En (Iv r,I):=by
 unfold D4 at h
 have hr:((a0.aM.getD []).length:Int)=r:=En.inj h
 subst hr
 have this:∃hh,qm pr (X pr) 162 [aP a0] []=En (Lv a0.aM,I,hh):=by
  rw[qj (show pr.bG 162=En tI from rfl) (by simp)]
  simp only[go_sem,seval,tI]
  exact⟨_,rfl⟩
 obtain⟨hh,this⟩:=this
 exact zx rfl this (by first|rfl|simp only[go_sem,seval]) (by first|rfl|simp only[go_sem,seval])
def D2 (a0:ar)(a1:bh):Option Int:=
 qa (oq a0 a1.product) fun v1=>
 qa (qq (a0.ae.getD []) v1) fun v3=>
 qa (D4 v3) fun v5=>
 En v5
theorem juc {a0 a1 r}(h:D2 a0 a1=En r):qc pr (X pr) 132 [aR a0,aU a1]=En (Iv r,I):=by
 unfold D2 at h
 refine zd tJ ?_
 repeat' first|(replace h:=qb h;obtain⟨d,g,h⟩:=h;with_reducible first|replace g:=vL g|replace g:=jth g|skip)|(replace h:=qd h;rcases h with⟨g,h⟩|⟨g,h⟩)
 all_goals (cases h<;>(simp only[go_sem,seval,tJ,jg, *];exact⟨_,rfl⟩))
def pK (a0:ar)(a1:bh):Option aY:=
 qa (oq a0 a1.product) fun v1=>
 qa (qq (a0.ae.getD []) v1) fun v3=>
 qa (qq (v3.aM.getD []) (qe .i64 (a1.version-1))) fun v5=>
 En v5
theorem Nj {a0 a1 r}(h:pK a0 a1=En r):qc pr (X pr) 126 [aR a0,aU a1]=En (aD r,I):=by
 unfold pK at h
 refine zd tK ?_
 repeat' first|(replace h:=qb h;obtain⟨d,g,h⟩:=h;with_reducible first|replace g:=vL g|skip)|(replace h:=qd h;rcases h with⟨g,h⟩|⟨g,h⟩)
 all_goals (cases h<;>(simp only[go_sem,seval,tK,jg, *];exact⟨_,rfl⟩))
def Bc (a0:bh)(a1:jb)(s0:Int×(List UInt8)×Int×Int):Option ((Int×(List UInt8)×Int×Int)⊕((Int×(List UInt8)×Int×Int))):=
 cond (decide (s0.1<((a0.results.getD []).length:Int)))
  (qa (qq (a0.results.getD []) s0.1) fun v12=>
  cond (decide (v12.k=a1.k))
   (cond (decide (v12.a=a0.version))
    (En (.inl (qe .i64 (s0.1+1),v12.k,v12.a,v12.b)))
    (En (.inl (qe .i64 (s0.1+1),s0.2.1,s0.2.2.1,s0.2.2.2))))
   (En (.inl (qe .i64 (s0.1+1),s0.2.1,s0.2.2.1,s0.2.2.2))))
  (En (.inr (s0.1,s0.2.1,s0.2.2.1,s0.2.2.2)))
def OQ (a0:bh)(a1:jb)(s0:Int×(List UInt8)×Int×Int):bf:=⟨[(2,.ai (aU a0),I),(3,.ai (aT a1),I),(5,.ptr 0 0,I),(10,sl 3 q9 a0.results,I),(11,Lv a0.results,I),(12,Iv s0.1,I)],[.cells [(.str s0.2.1,I),(Iv s0.2.2.1,I),(Iv s0.2.2.2,I)]]⟩
def OS (a0:bh)(a1:jb)(d:(Int×(List UInt8)×Int×Int)):je×bf:=(.exit 0,⟨[(2,.ai (aU a0),I),(3,.ai (aT a1),I),(5,.ptr 0 0,I),(10,sl 3 q9 a0.results,I),(11,Lv a0.results,I),(12,Iv d.1,I),(13,.bool I,I)],[.cells [(.str d.2.1,I),(Iv d.2.2.1,I),(Iv d.2.2.2,I)]]⟩)
theorem jqf (a0:bh)(a1:jb)(s0:Int×(List UInt8)×Int×Int)(r)(h:Bc a0 a1 s0=En r):jw pr OT (OQ a0 a1) (OS a0 a1) s0 r:=by
 unfold Bc at h
 repeat' first|(replace h:=qb h;obtain⟨d,g,h⟩:=h)|(replace h:=qd h;rcases h with⟨g,h⟩|⟨g,h⟩)
 all_goals (cases h<;>((first|refine qx ?_|refine jq ?_);simp only[go_sem,seval,OT,OQ,jg,OS, *]<;>rfl))
theorem jux (a0:bh)(a1:jb){s0 d}(h:bB (Bc a0 a1) s0=En d):X pr (.loop OT) (OQ a0 a1 s0)=En (OS a0 a1 d):=ze (jqf a0 a1) h
def Hm (a0:bh)(a1:jb):Option Bool:=
 qa (bB (Bc a0 a1) (0,[],(-1),0)) fun d16=>
 cond (decide (d16.2.1=[])&&decide (d16.2.2.1=(-1))&&decide (d16.2.2.2=0))
  (En I)
  (cond (decide (a1.a≤d16.2.2.2))
   (En (decide (d16.2.2.2≤a1.b)))
   (En I))
theorem zid {a0 a1 r}(h:Hm a0 a1=En r):qc pr (X pr) 128 [aU a0,aT a1]=En (.bool r,I):=by
 unfold Hm at h
 refine zd tL ?_
 repeat' first|(replace h:=qb h;obtain⟨d,g,h⟩:=h;with_reducible first|(replace g:=jux a0 a1 g;dsimp only[OQ,OS,zg]at g h)|skip)|(replace h:=qd h;rcases h with⟨g,h⟩|⟨g,h⟩)
 all_goals (cases h<;>(simp only[go_sem,seval,tL, *];exact⟨_,rfl⟩))
def Hp (a0:jb)(a1:bh):Option Bool:=
 qa (Hm a1 a0) fun v1=>
 En (!v1)
theorem zb1 (hp:qh){a0 a1 r}(h:Hp a0 a1=En r):qm pr (X pr) 127 [aT a0,.ai (aU a1)] hp=En (.bool r,I,hp):=by
 unfold Hp at h
 obtain⟨v1,h2,h⟩:=qb h
 have sG:qc pr (X pr) 128 [aU a1,aT a0]=En (.bool v1,I):=zid h2
 have hr:(!v1)=r:=En.inj h
 subst hr
 rw[qj (show pr.bG 127=En tM from rfl) (by simp)]
 simp only[go_sem,seval,tM,sG]<;>rfl
def Ho (a0:Option (List jb))(ax:bh)(s0:(Option (List jb))×Int×Bool):Option (((Option (List jb))×Int×Bool)⊕(((Option (List jb))×Bool×Int))):=
 cond (decide (s0.2.1<((a0.getD []).length:Int)))
  (qa (qq (a0.getD []) s0.2.1) fun v20=>
  qa (Hp v20 ax) fun v22=>
  cond v22
   (cond s0.2.2
    (qa (bq s0.1 [v20]) fun v26=>
    En (.inl (v26,qe .i64 (s0.2.1+1),Es)))
    (cond s0.1.isNone
     (qa (bq s0.1 [v20]) fun hO=>
     En (.inl (hO,qe .i64 (s0.2.1+1),Es)))
     (E9)))
   (En (.inl (s0.1,qe .i64 (s0.2.1+1),s0.2.2))))
  (En (.inr (s0.1,s0.2.2,s0.2.1)))
def OU (a0:Option (List jb))(ax:bh)(s0:(Option (List jb))×Int×Bool):bf:=⟨[(1,.fn (.func 127) [] [.ai (aU ax)],I),(5,sl 3 q9 s0.1,s0.2.2),(8,sl 3 q9 a0,I),(9,Lv a0,I),(10,Iv s0.2.1,I)],[]⟩
def OV (a0:Option (List jb))(ax:bh)(d:((Option (List jb))×Bool×Int)):je×bf:=(.exit 0,⟨[(1,.fn (.func 127) [] [.ai (aU ax)],I),(5,sl 3 q9 d.1,d.2.1),(8,sl 3 q9 a0,I),(9,Lv a0,I),(10,Iv d.2.2,I),(11,.bool I,I)],[]⟩)
theorem jw9 (a0:Option (List jb))(ax:bh)(s0:(Option (List jb))×Int×Bool)(r)(h:Ho a0 ax s0=En r):jw pr OW (OU a0 ax) (OV a0 ax) s0 r:=by
 unfold Ho at h
 repeat' first|(replace h:=qb h;obtain⟨d,g,h⟩:=h;with_reducible first|replace g:=zb1 [] g|replace g:=yG g|skip)|(replace h:=qd h;rcases h with⟨g,h⟩|⟨g,h⟩)
 all_goals (cases h<;>((first|refine qx ?_|refine jq ?_);simp only[go_sem,seval,OW,OU,jg,OV, *]<;>rfl))
theorem js2 (a0:Option (List jb))(ax:bh){s0 d}(h:bB (Ho a0 ax) s0=En d):X pr (.loop OW) (OU a0 ax s0)=En (OV a0 ax d):=ze (jw9 a0 ax) h
def Hn (a0:Option (List jb))(ax:bh):Option ((Option (List jb))×Bool):=
 qa (bB (Ho a0 ax) (E9,0,I)) fun d31=>
 En (d31.1,d31.2.1)
theorem za7 {a0 ax r}(h:Hn a0 ax=En r):qc pr (X pr) 125 [sl 3 q9 a0,.fn (.func 127) [] [.ai (aU ax)]]=En (sl 3 q9 r.1,r.2):=by
 unfold Hn at h
 refine kr tN ?_
 repeat' first|(replace h:=qb h;obtain⟨d,g,h⟩:=h;with_reducible first|(replace g:=js2 a0 ax g;dsimp only[OU,OV,zg]at g h)|skip)|(replace h:=qd h;rcases h with⟨g,h⟩|⟨g,h⟩)
 all_goals (cases h<;>(simp only[go_sem,seval,tN, *];exact⟨_,rfl⟩))
def LP (a0:jb):Option (List UInt8):=
 En a0.k
theorem ziq (hp:qh){a0 r}(h:LP a0=En r):qm pr (X pr) 130 [aT a0] hp=En (.str r,I,hp):=by
 unfold LP at h
 have hr:a0.k=r:=En.inj h
 subst hr
 rw[qj (show pr.bG 130=En tO from rfl) (by simp)]
 simp only[go_sem,seval,tO]<;>rfl
def Hq (a0:Option (List jb))(s0:(Option (List (List UInt8)))×Int×Bool):Option (((Option (List (List UInt8)))×Int×Bool)⊕(((Option (List (List UInt8)))×Bool×Int))):=
 cond (decide (s0.2.1<((a0.getD []).length:Int)))
  (qa (qq (a0.getD []) s0.2.1) fun gQ=>
  qa (LP gQ) fun v20=>
  cond s0.2.2
   (qa (bq s0.1 [v20]) fun v23=>
   En (.inl (v23,qe .i64 (s0.2.1+1),Es)))
   (cond s0.1.isNone
    (qa (bq s0.1 [v20]) fun v26=>
    En (.inl (v26,qe .i64 (s0.2.1+1),Es)))
    (E9)))
  (En (.inr (s0.1,s0.2.2,s0.2.1)))
def OX (a0:Option (List jb))(s0:(Option (List (List UInt8)))×Int×Bool):bf:=⟨[(1,.fn (.func 130) [] [],I),(5,sl 1 yf s0.1,s0.2.2),(8,sl 3 q9 a0,I),(9,Lv a0,I),(10,Iv s0.2.1,I)],[]⟩
def OY (a0:Option (List jb))(d:((Option (List (List UInt8)))×Bool×Int)):je×bf:=(.exit 0,⟨[(1,.fn (.func 130) [] [],I),(5,sl 1 yf d.1,d.2.1),(8,sl 3 q9 a0,I),(9,Lv a0,I),(10,Iv d.2.2,I),(11,.bool I,I)],[]⟩)
theorem jtx (a0:Option (List jb))(s0:(Option (List (List UInt8)))×Int×Bool)(r)(h:Hq a0 s0=En r):jw pr OZ (OX a0) (OY a0) s0 r:=by
 unfold Hq at h
 repeat' first|(replace h:=qb h;obtain⟨d,g,h⟩:=h;with_reducible first|replace g:=ziq [] g|replace g:=q7s g|skip)|(replace h:=qd h;rcases h with⟨g,h⟩|⟨g,h⟩)
 all_goals (cases h<;>((first|refine qx ?_|refine jq ?_);simp only[go_sem,seval,OZ,OX,jg,OY, *]<;>rfl))
theorem jte (a0:Option (List jb)){s0 d}(h:bB (Hq a0) s0=En d):X pr (.loop OZ) (OX a0 s0)=En (OY a0 d):=ze (jtx a0) h
def f129 (a0:Option (List jb)):Option ((Option (List (List UInt8)))×Bool):=
 qa (bB (Hq a0) (E9,0,I)) fun d28=>
 En (d28.1,d28.2.1)
theorem zi8 {a0 r}(h:f129 a0=En r):qc pr (X pr) 129 [sl 3 q9 a0,.fn (.func 130) [] []]=En (sl 1 yf r.1,r.2):=by
 unfold f129 at h
 refine kr tP ?_
 repeat' first|(replace h:=qb h;obtain⟨d,g,h⟩:=h;with_reducible first|(replace g:=jte a0 g;dsimp only[OX,OY,zg]at g h)|skip)|(replace h:=qd h;rcases h with⟨g,h⟩|⟨g,h⟩)
 all_goals (cases h<;>(simp only[go_sem,seval,tP, *];exact⟨_,rfl⟩))
def f78 (a0:ar)(a1:bh):Option ((Option (List (List UInt8)))×Bool):=
 qa (pK a0 a1) fun v1=>
 qa (Hn v1.aA a1) fun v3=>
 qa (f129 v3.1) fun v5=>
 En (v5.1,v5.2)
theorem W78 {a0 a1 r}(h:f78 a0 a1=En r):qc pr (X pr) 78 [aR a0,aU a1]=En (sl 1 yf r.1,r.2):=by
 unfold f78 at h
 refine kr JB ?_
 repeat' first|(replace h:=qb h;obtain⟨d,g,h⟩:=h;with_reducible first|replace g:=Nj g|replace g:=za7 g|replace g:=zi8 g|skip)|(replace h:=qd h;rcases h with⟨g,h⟩|⟨g,h⟩)
 all_goals (cases h<;>(simp only[go_sem,seval,JB, *];exact⟨_,rfl⟩))
end Go.Z
namespace Go.Z
open Go Go.Abs Go.W
def f268 (a0:Option (List jc)):Option ((Option (List jc))×Bool):=
 cond a0.isNone
  (En (E9,I))
  (qa (bq (En []) (a0.getD [])) fun v2=>
  En (v2,Es))
theorem zek {a0 r}(h:f268 a0=En r):qc pr (X pr) 268 [sl 5 jd a0]=En (sl 5 jd r.1,r.2):=by
 unfold f268 at h
 refine kr tQ ?_
 repeat' first|(replace h:=qb h;obtain⟨d,g,h⟩:=h)|(replace h:=qd h;rcases h with⟨g,h⟩|⟨g,h⟩)
 all_goals (cases h<;>(simp only[go_sem,seval,tQ,kc, *];exact⟨_,rfl⟩))
def Ym (a0:Option (List aC)):Option ((Option (List aC))×Bool):=
 cond a0.isNone
  (En (E9,I))
  (qa (bq (En []) (a0.getD [])) fun v2=>
  En (v2,Es))
theorem ze9 {a0 r}(h:Ym a0=En r):qc pr (X pr) 269 [sl 4 qu a0]=En (sl 4 qu r.1,r.2):=by
 unfold Ym at h
 refine kr tR ?_
 repeat' first|(replace h:=qb h;obtain⟨d,g,h⟩:=h)|(replace h:=qd h;rcases h with⟨g,h⟩|⟨g,h⟩)
 all_goals (cases h<;>(simp only[go_sem,seval,tR,kc, *];exact⟨_,rfl⟩))
def Yn (a0:Option (List bh)):Option ((Option (List bh))×Bool):=
 cond a0.isNone
  (En (E9,I))
  (qa (bq (En []) (a0.getD [])) fun v2=>
  En (v2,Es))
theorem zdq {a0 r}(h:Yn a0=En r):qc pr (X pr) 281 [sl 8 bI a0]=En (sl 8 bI r.1,r.2):=by
 unfold Yn at h
 refine kr tS ?_
 repeat' first|(replace h:=qb h;obtain⟨d,g,h⟩:=h)|(replace h:=qd h;rcases h with⟨g,h⟩|⟨g,h⟩)
 all_goals (cases h<;>(simp only[go_sem,seval,tS,kc, *];exact⟨_,rfl⟩))
def Yo (a0:Option (List aY)):Option ((Option (List aY))×Bool):=
 cond a0.isNone
  (En (E9,I))
  (qa (bq (En []) (a0.getD [])) fun v2=>
  En (v2,Es))
theorem zee {a0 r}(h:Yo a0=En r):qc pr (X pr) 278 [sl 2 yb a0]=En (sl 2 yb r.1,r.2):=by
 unfold Yo at h
 refine kr tT ?_
 repeat' first|(replace h:=qb h;obtain⟨d,g,h⟩:=h)|(replace h:=qd h;rcases h with⟨g,h⟩|⟨g,h⟩)
 all_goals (cases h<;>(simp only[go_sem,seval,tT,kc, *];exact⟨_,rfl⟩))
def HY (a0:Option (List bn)):Option ((Option (List bn))×Bool):=
 cond a0.isNone
  (En (E9,I))
  (qa (bq (En []) (a0.getD [])) fun v2=>
  En (v2,Es))
theorem jsz {a0 r}(h:HY a0=En r):qc pr (X pr) 279 [sl 2 bp a0]=En (sl 2 bp r.1,r.2):=by
 unfold HY at h
 refine kr tU ?_
 repeat' first|(replace h:=qb h;obtain⟨d,g,h⟩:=h)|(replace h:=qd h;rcases h with⟨g,h⟩|⟨g,h⟩)
 all_goals (cases h<;>(simp only[go_sem,seval,tU,kc, *];exact⟨_,rfl⟩))
def HZ (a0:Option (List jb)):Option ((Option (List jb))×Bool):=
 cond a0.isNone
  (En (E9,I))
  (qa (bq (En []) (a0.getD [])) fun v2=>
  En (v2,Es))
theorem js4 {a0 r}(h:HZ a0=En r):qc pr (X pr) 280 [sl 3 q9 a0]=En (sl 3 q9 r.1,r.2):=by
 unfold HZ at h
 refine kr tV ?_
 repeat' first|(replace h:=qb h;obtain⟨d,g,h⟩:=h)|(replace h:=qd h;rcases h with⟨g,h⟩|⟨g,h⟩)
 all_goals (cases h<;>(simp only[go_sem,seval,tV,kc, *];exact⟨_,rfl⟩))
def f285 (a0:Option (List jb)):Option ((Option (List jb))×Bool):=
 cond a0.isNone
  (En (E9,I))
  (qa (bq (En []) (a0.getD [])) fun v2=>
  En (v2,Es))
theorem ziu {a0 r}(h:f285 a0=En r):qc pr (X pr) 285 [sl 3 q9 a0]=En (sl 3 q9 r.1,r.2):=by
 unfold f285 at h
 refine kr tW ?_
 repeat' first|(replace h:=qb h;obtain⟨d,g,h⟩:=h)|(replace h:=qd h;rcases h with⟨g,h⟩|⟨g,h⟩)
 all_goals (cases h<;>(simp only[go_sem,seval,tW,kc, *];exact⟨_,rfl⟩))
def Yp (a0:Option (List bn)):Option ((Option (List bn))×Bool):=
 cond a0.isNone
  (En (E9,I))
  (qa (bq (En []) (a0.getD [])) fun v2=>
  En (v2,Es))
theorem zic {a0 r}(h:Yp a0=En r):qc pr (X pr) 300 [sl 2 bp a0]=En (sl 2 bp r.1,r.2):=by
 unfold Yp at h
 refine kr tX ?_
 repeat' first|(replace h:=qb h;obtain⟨d,g,h⟩:=h)|(replace h:=qd h;rcases h with⟨g,h⟩|⟨g,h⟩)
 all_goals (cases h<;>(simp only[go_sem,seval,tX,kc, *];exact⟨_,rfl⟩))
def LS (a0:Option (List jc))(a1:jc):Option (Option (List jc)):=
 qa (f268 a0) fun v1=>
 cond v1.2
  (qa (bq v1.1 [a1]) fun v4=>
  En v4)
  (cond v1.1.isNone
   (qa (bq v1.1 [a1]) fun v7=>
   En v7)
   (E9))
theorem zco {a0 a1 r}(h:LS a0 a1=En r):qc pr (X pr) 209 [sl 5 jd a0,aL a1]=En (sl 5 jd r,Es):=by
 unfold LS at h
 refine kr tY ?_
 repeat' first|(replace h:=qb h;obtain⟨d,g,h⟩:=h;with_reducible first|replace g:=zek g|replace g:=LD g|skip)|(replace h:=qd h;rcases h with⟨g,h⟩|⟨g,h⟩)
 all_goals (cases h<;>(simp only[go_sem,seval,tY, *];exact⟨_,rfl⟩))
def LU (a0:Option (List aC))(a1:aC):Option (Option (List aC)):=
 qa (Ym a0) fun v1=>
 cond v1.2
  (qa (bq v1.1 [a1]) fun v4=>
  En v4)
  (cond v1.1.isNone
   (qa (bq v1.1 [a1]) fun v7=>
   En v7)
   (E9))
theorem zfg {a0 a1 r}(h:LU a0 a1=En r):qc pr (X pr) 210 [sl 4 qu a0,aP a1]=En (sl 4 qu r,Es):=by
 unfold LU at h
 refine kr tZ ?_
 repeat' first|(replace h:=qb h;obtain⟨d,g,h⟩:=h;with_reducible first|replace g:=ze9 g|replace g:=S9 g|skip)|(replace h:=qd h;rcases h with⟨g,h⟩|⟨g,h⟩)
 all_goals (cases h<;>(simp only[go_sem,seval,tZ, *];exact⟨_,rfl⟩))
def f225 (a0:Option (List bh))(a1:bh):Option (Option (List bh)):=
 qa (Yn a0) fun v1=>
 cond v1.2
  (qa (bq v1.1 [a1]) fun v4=>
  En v4)
  (cond v1.1.isNone
   (qa (bq v1.1 [a1]) fun v7=>
   En v7)
   (E9))
theorem zej {a0 a1 r}(h:f225 a0 a1=En r):qc pr (X pr) 225 [sl 8 bI a0,aU a1]=En (sl 8 bI r,Es):=by
 unfold f225 at h
 refine kr ua ?_
 repeat' first|(replace h:=qb h;obtain⟨d,g,h⟩:=h;with_reducible first|replace g:=zdq g|replace g:=Ta g|skip)|(replace h:=qd h;rcases h with⟨g,h⟩|⟨g,h⟩)
 all_goals (cases h<;>(simp only[go_sem,seval,ua, *];exact⟨_,rfl⟩))
def LV (a0:Option (List aY))(a1:aY):Option (Option (List aY)):=
 qa (Yo a0) fun v1=>
 cond v1.2
  (qa (bq v1.1 [a1]) fun v4=>
  En v4)
  (cond v1.1.isNone
   (qa (bq v1.1 [a1]) fun v7=>
   En v7)
   (E9))
theorem zht {a0 a1 r}(h:LV a0 a1=En r):qc pr (X pr) 223 [sl 2 yb a0,aD a1]=En (sl 2 yb r,Es):=by
 unfold LV at h
 refine kr ub ?_
 repeat' first|(replace h:=qb h;obtain⟨d,g,h⟩:=h;with_reducible first|replace g:=zee g|replace g:=S8 g|skip)|(replace h:=qd h;rcases h with⟨g,h⟩|⟨g,h⟩)
 all_goals (cases h<;>(simp only[go_sem,seval,ub, *];exact⟨_,rfl⟩))
def LW (a0:Option (List bn))(a1:bn):Option (Option (List bn)):=
 qa (HY a0) fun v1=>
 cond v1.2
  (qa (bq v1.1 [a1]) fun v4=>
  En v4)
  (cond v1.1.isNone
   (qa (bq v1.1 [a1]) fun v7=>
   En v7)
   (E9))
theorem zb3 {a0 a1 r}(h:LW a0 a1=En r):qc pr (X pr) 273 [sl 2 bp a0,aN a1]=En (sl 2 bp r,Es):=by
 unfold LW at h
 refine kr uc ?_
 repeat' first|(replace h:=qb h;obtain⟨d,g,h⟩:=h;with_reducible first|replace g:=jsz g|replace g:=wz g|skip)|(replace h:=qd h;rcases h with⟨g,h⟩|⟨g,h⟩)
 all_goals (cases h<;>(simp only[go_sem,seval,uc, *];exact⟨_,rfl⟩))
def f277 (a0:Option (List jb))(a1:jb):Option (Option (List jb)):=
 qa (HZ a0) fun v1=>
 cond v1.2
  (qa (bq v1.1 [a1]) fun v4=>
  En v4)
  (cond v1.1.isNone
   (qa (bq v1.1 [a1]) fun v7=>
   En v7)
   (E9))
theorem zi1 {a0 a1 r}(h:f277 a0 a1=En r):qc pr (X pr) 277 [sl 3 q9 a0,aT a1]=En (sl 3 q9 r,Es):=by
 unfold f277 at h
 refine kr ud ?_
 repeat' first|(replace h:=qb h;obtain⟨d,g,h⟩:=h;with_reducible first|replace g:=js4 g|replace g:=yG g|skip)|(replace h:=qd h;rcases h with⟨g,h⟩|⟨g,h⟩)
 all_goals (cases h<;>(simp only[go_sem,seval,ud, *];exact⟨_,rfl⟩))
def f284 (a0:Option (List bn))(a1:bn):Option (Option (List bn)):=
 qa (Yp a0) fun v1=>
 cond v1.2
  (qa (bq v1.1 [a1]) fun v4=>
  En v4)
  (cond v1.1.isNone
   (qa (bq v1.1 [a1]) fun v7=>
   En v7)
   (E9))
theorem zdf {a0 a1 r}(h:f284 a0 a1=En r):qc pr (X pr) 284 [sl 2 bp a0,aN a1]=En (sl 2 bp r,Es):=by
 unfold f284 at h
 refine kr uf ?_
 repeat' first|(replace h:=qb h;obtain⟨d,g,h⟩:=h;with_reducible first|replace g:=zic g|replace g:=wz g|skip)|(replace h:=qd h;rcases h with⟨g,h⟩|⟨g,h⟩)
 all_goals (cases h<;>(simp only[go_sem,seval,uf, *];exact⟨_,rfl⟩))
def LX (a0:Option (List jb))(a1:jb):Option (Option (List jb)):=
 qa (f285 a0) fun v1=>
 cond v1.2
  (qa (bq v1.1 [a1]) fun v4=>
  En v4)
  (cond v1.1.isNone
   (qa (bq v1.1 [a1]) fun v7=>
   En v7)
   (E9))
theorem zhs {a0 a1 r}(h:LX a0 a1=En r):qc pr (X pr) 236 [sl 3 q9 a0,aT a1]=En (sl 3 q9 r,Es):=by
 unfold LX at h
 refine kr ug ?_
 repeat' first|(replace h:=qb h;obtain⟨d,g,h⟩:=h;with_reducible first|replace g:=ziu g|replace g:=yG g|skip)|(replace h:=qd h;rcases h with⟨g,h⟩|⟨g,h⟩)
 all_goals (cases h<;>(simp only[go_sem,seval,ug, *];exact⟨_,rfl⟩))
def f224 (a0:aY):Option aY:=
 qa (HY a0.aB) fun v1=>
 qa (HZ a0.aA) fun v3=>
 En (⟨v1.1,v3.1⟩)
theorem zfs {a0 r}(h:f224 a0=En r):qc pr (X pr) 224 [aD a0]=En (aD r,I):=by
 unfold f224 at h
 refine zd uh ?_
 repeat' first|(replace h:=qb h;obtain⟨d,g,h⟩:=h;with_reducible first|replace g:=jsz g|replace g:=js4 g|skip)|(replace h:=qd h;rcases h with⟨g,h⟩|⟨g,h⟩)
 all_goals (cases h<;>(simp only[go_sem,seval,uh, *];exact⟨_,rfl⟩))
end Go.Z
namespace Go.Z
open Go Go.Abs Go.W
def Bx (a0:aY)(a1:aY)(s0:Int):Option (Int⊕(Unit⊕Int)):=
 cond (decide (s0<((a0.aB.getD []).length:Int)))
  (qa (qq (a0.aB.getD []) s0) fun dU=>
  qa (qq (a1.aB.getD []) s0) fun gQ=>
  cond (decide (dU.k=gQ.k)&&decide (dU.n=gQ.n))
   (En (.inl (qe .i64 (s0+1))))
   (En (.inr (.inl ()))))
  (En (.inr (.inr s0)))
def O0 (a0:aY)(a1:aY)(s0:Int):bf:=⟨[(2,.ai (aD a0),I),(3,.ai (aD a1),I),(5,Iv s0,I)],[]⟩
def O1 (a0:aY)(a1:aY):Unit⊕Int→je×bf
 | .inl d=>(.ret,⟨[(4,.bool I,I)],[]⟩)
 | .inr d=>(.exit 0,⟨[(2,.ai (aD a0),I),(3,.ai (aD a1),I),(5,Iv d,I),(27,.bool I,I)],[]⟩)
theorem jvf (a0:aY)(a1:aY)(s0:Int)(r)(h:Bx a0 a1 s0=En r):jw pr O2 (O0 a0 a1) (O1 a0 a1) s0 r:=by
 unfold Bx at h
 repeat' first|(replace h:=qb h;obtain⟨d,g,h⟩:=h)|(replace h:=qd h;rcases h with⟨g,h⟩|⟨g,h⟩)
 all_goals (cases h<;>((first|refine qx ?_|refine jq ?_);simp only[go_sem,seval,O2,O0,jg,O1, *]<;>rfl))
theorem ju3 (a0:aY)(a1:aY){s0 d}(h:bB (Bx a0 a1) s0=En d):X pr (.loop O2) (O0 a0 a1 s0)=En (O1 a0 a1 d):=ze (jvf a0 a1) h
def Bz (a0:aY)(a1:aY)(s1:Int):Option (Int⊕(Unit⊕Int)):=
 cond (decide (s1<((a0.aA.getD []).length:Int)))
  (qa (qq (a0.aA.getD []) s1) fun oX=>
  qa (qq (a1.aA.getD []) s1) fun v40=>
  cond (decide (oX.k=v40.k)&&decide (oX.a=v40.a)&&decide (oX.b=v40.b))
   (En (.inl (qe .i64 (s1+1))))
   (En (.inr (.inl ()))))
  (En (.inr (.inr s1)))
def O3 (a0:aY)(a1:aY)(s1:Int):bf:=⟨[(2,.ai (aD a0),I),(3,.ai (aD a1),I),(6,Iv s1,I)],[]⟩
def O4 (a0:aY)(a1:aY):Unit⊕Int→je×bf
 | .inl d=>(.ret,⟨[(4,.bool I,I)],[]⟩)
 | .inr d=>(.exit 2,⟨[(2,.ai (aD a0),I),(3,.ai (aD a1),I),(6,Iv d,I),(45,.bool I,I)],[]⟩)
theorem js1 (a0:aY)(a1:aY)(s1:Int)(r)(h:Bz a0 a1 s1=En r):jw pr O5 (O3 a0 a1) (O4 a0 a1) s1 r:=by
 unfold Bz at h
 repeat' first|(replace h:=qb h;obtain⟨d,g,h⟩:=h)|(replace h:=qd h;rcases h with⟨g,h⟩|⟨g,h⟩)
 all_goals (cases h<;>((first|refine qx ?_|refine jq ?_);simp only[go_sem,seval,O5,O3,jg,O4, *]<;>rfl))
theorem jr0 (a0:aY)(a1:aY){s1 d}(h:bB (Bz a0 a1) s1=En d):X pr (.loop O5) (O3 a0 a1 s1)=En (O4 a0 a1 d):=ze (js1 a0 a1) h
def Et (a0:aY)(a1:aY):Option Bool:=
 cond (decide (((a0.aB.getD []).length:Int)=((a1.aB.getD []).length:Int)))
  (cond (decide (((a0.aA.getD []).length:Int)=((a1.aA.getD []).length:Int)))
   (qa (bB (Bx a0 a1) 0) fun d21=>match d21 with
    | .inl d23=>
     En I
    | .inr d24=>
     qa (bB (Bz a0 a1) 0) fun d43=>match d43 with
      | .inl d45=>
       En I
      | .inr d46=>
       En Es)
   (En I))
  (En I)
theorem jrr {a0 a1 r}(h:Et a0 a1=En r):qc pr (X pr) 116 [aD a0,aD a1]=En (.bool r,I):=by
 unfold Et at h
 refine zd xp ?_
 repeat' first|(replace h:=qb h;obtain⟨d,g,h⟩:=h;with_reducible first|(replace g:=ju3 a0 a1 g;rcases d with d|d<;>dsimp only[O0,O1,zg]at g h)|(replace g:=jr0 a0 a1 g;rcases d with d|d<;>dsimp only[O3,O4,zg]at g h)|skip)|(replace h:=qd h;rcases h with⟨g,h⟩|⟨g,h⟩)
 all_goals (cases h<;>(simp only[go_sem,seval,xp, *];exact⟨_,rfl⟩))
def BA (a0:aC)(a1:aC)(s0:Int):Option (Int⊕(Unit⊕Int)):=
 cond (decide (s0<((a0.aM.getD []).length:Int)))
  (qa (qq (a0.aM.getD []) s0) fun v23=>
  qa (qq (a1.aM.getD []) s0) fun v25=>
  qa (Et v23 v25) fun sY=>
  cond sY
   (En (.inl (qe .i64 (s0+1))))
   (En (.inr (.inl ()))))
  (En (.inr (.inr s0)))
def O6 (a0:aC)(a1:aC)(s0:Int):bf:=⟨[(2,.ai (aP a0),I),(3,.ai (aP a1),I),(5,Iv s0,I)],[]⟩
def O7 (a0:aC)(a1:aC):Unit⊕Int→je×bf
 | .inl d=>(.ret,⟨[(4,.bool I,I)],[]⟩)
 | .inr d=>(.exit 0,⟨[(2,.ai (aP a0),I),(3,.ai (aP a1),I),(5,Iv d,I),(32,.bool I,I)],[]⟩)
theorem j4a (a0:aC)(a1:aC)(s0:Int)(r)(h:BA a0 a1 s0=En r):jw pr O8 (O6 a0 a1) (O7 a0 a1) s0 r:=by
 unfold BA at h
 repeat' first|(replace h:=qb h;obtain⟨d,g,h⟩:=h;with_reducible first|replace g:=jrr g|skip)|(replace h:=qd h;rcases h with⟨g,h⟩|⟨g,h⟩)
 all_goals (cases h<;>((first|refine qx ?_|refine jq ?_);simp only[go_sem,seval,O8,O6,jg,O7, *]<;>rfl))
theorem j1h (a0:aC)(a1:aC){s0 d}(h:bB (BA a0 a1) s0=En d):X pr (.loop O8) (O6 a0 a1 s0)=En (O7 a0 a1 d):=ze (j4a a0 a1) h
def f56 (a0:aC)(a1:aC):Option Bool:=
 cond (decide (a0.name=a1.name))
  (qa (Et (⟨a0.dn,a0.dt⟩) (⟨a1.dn,a1.dt⟩)) fun v2=>
  cond v2
   (cond (decide (((a0.aM.getD []).length:Int)=((a1.aM.getD []).length:Int)))
    (qa (bB (BA a0 a1) 0) fun d30=>match d30 with
     | .inl d32=>
      En I
     | .inr d33=>
      En Es)
    (En I))
   (En I))
  (En I)
theorem W56 {a0 a1 r}(h:f56 a0 a1=En r):qc pr (X pr) 56 [aP a0,aP a1]=En (.bool r,I):=by
 unfold f56 at h
 refine zd O9 ?_
 repeat' first|(replace h:=qb h;obtain⟨d,g,h⟩:=h;with_reducible first|replace g:=jrr g|(replace g:=j1h a0 a1 g;rcases d with d|d<;>dsimp only[O6,O7,zg]at g h)|skip)|(replace h:=qd h;rcases h with⟨g,h⟩|⟨g,h⟩)
 all_goals (cases h<;>(simp only[go_sem,seval,O9, *];exact⟨_,rfl⟩))
def BD (a0:bh)(a1:bh)(s0:Int):Option (Int⊕(Unit⊕Int)):=
 cond (decide (s0<((a0.uses.getD []).length:Int)))
  (qa (qq (a0.uses.getD []) s0) fun v22=>
  qa (qq (a1.uses.getD []) s0) fun v24=>
  cond (decide (v22.k=v24.k)&&decide (v22.n=v24.n))
   (En (.inl (qe .i64 (s0+1))))
   (En (.inr (.inl ()))))
  (En (.inr (.inr s0)))
def Pa (a0:bh)(a1:bh)(s0:Int):bf:=⟨[(2,.ai (aU a0),I),(3,.ai (aU a1),I),(5,Iv s0,I)],[]⟩
def Pb (a0:bh)(a1:bh):Unit⊕Int→je×bf
 | .inl d=>(.ret,⟨[(4,.bool I,I)],[]⟩)
 | .inr d=>(.exit 0,⟨[(2,.ai (aU a0),I),(3,.ai (aU a1),I),(5,Iv d,I),(69,.bool I,I)],[]⟩)
theorem j4d (a0:bh)(a1:bh)(s0:Int)(r)(h:BD a0 a1 s0=En r):jw pr Pc (Pa a0 a1) (Pb a0 a1) s0 r:=by
 unfold BD at h
 repeat' first|(replace h:=qb h;obtain⟨d,g,h⟩:=h)|(replace h:=qd h;rcases h with⟨g,h⟩|⟨g,h⟩)
 all_goals (cases h<;>((first|refine qx ?_|refine jq ?_);simp only[go_sem,seval,Pc,Pa,jg,Pb, *]<;>rfl))
theorem j49 (a0:bh)(a1:bh){s0 d}(h:bB (BD a0 a1) s0=En d):X pr (.loop Pc) (Pa a0 a1 s0)=En (Pb a0 a1 d):=ze (j4d a0 a1) h
def BE (a0:bh)(a1:bh)(s1:Int):Option (Int⊕(Unit⊕Int)):=
 cond (decide (s1<((a0.results.getD []).length:Int)))
  (qa (qq (a0.results.getD []) s1) fun nG=>
  qa (qq (a1.results.getD []) s1) fun v46=>
  cond (decide (nG.k=v46.k)&&decide (nG.a=v46.a)&&decide (nG.b=v46.b))
   (En (.inl (qe .i64 (s1+1))))
   (En (.inr (.inl ()))))
  (En (.inr (.inr s1)))
def Pd (a0:bh)(a1:bh)(s1:Int):bf:=⟨[(2,.ai (aU a0),I),(3,.ai (aU a1),I),(6,Iv s1,I)],[]⟩
def Pe (a0:bh)(a1:bh):Unit⊕Int→je×bf
 | .inl d=>(.ret,⟨[(4,.bool I,I)],[]⟩)
 | .inr d=>(.exit 2,⟨[(2,.ai (aU a0),I),(3,.ai (aU a1),I),(6,Iv d,I),(87,.bool I,I)],[]⟩)
theorem j6l (a0:bh)(a1:bh)(s1:Int)(r)(h:BE a0 a1 s1=En r):jw pr Pg (Pd a0 a1) (Pe a0 a1) s1 r:=by
 unfold BE at h
 repeat' first|(replace h:=qb h;obtain⟨d,g,h⟩:=h)|(replace h:=qd h;rcases h with⟨g,h⟩|⟨g,h⟩)
 all_goals (cases h<;>((first|refine qx ?_|refine jq ?_);simp only[go_sem,seval,Pg,Pd,jg,Pe, *]<;>rfl))
theorem j5l (a0:bh)(a1:bh){s1 d}(h:bB (BE a0 a1) s1=En d):X pr (.loop Pg) (Pd a0 a1 s1)=En (Pe a0 a1 d):=ze (j6l a0 a1) h
def f57 (a0:bh)(a1:bh):Option Bool:=
 cond (decide (a0.name=a1.name))
  (cond (decide (a0.product=a1.product))
   (cond (decide (a0.version=a1.version))
    (cond (decide (a0.partner=a1.partner))
     (cond (a0.aq == a1.aq)
      (cond (decide (a0.ah=a1.ah))
       (cond (decide (((a0.uses.getD []).length:Int)=((a1.uses.getD []).length:Int)))
        (cond (decide (((a0.results.getD []).length:Int)=((a1.results.getD []).length:Int)))
         (qa (bB (BD a0 a1) 0) fun d27=>match d27 with
          | .inl d29=>
           En I
          | .inr d30=>
           qa (bB (BE a0 a1) 0) fun d49=>match d49 with
            | .inl d51=>
             En I
            | .inr d52=>
             En Es)
         (En I))
        (En I))
       (En I))
      (En I))
     (En I))
    (En I))
   (En I))
  (En I)
theorem W57 {a0 a1 r}(h:f57 a0 a1=En r):qc pr (X pr) 57 [aU a0,aU a1]=En (.bool r,I):=by
 unfold f57 at h
 refine zd Ph ?_
 repeat' first|(replace h:=qb h;obtain⟨d,g,h⟩:=h;with_reducible first|(replace g:=j49 a0 a1 g;rcases d with d|d<;>dsimp only[Pa,Pb,zg]at g h)|(replace g:=j5l a0 a1 g;rcases d with d|d<;>dsimp only[Pd,Pe,zg]at g h)|skip)|(replace h:=qd h;rcases h with⟨g,h⟩|⟨g,h⟩)
 all_goals (cases h<;>(simp only[go_sem,seval,Ph, *];exact⟨_,rfl⟩))
def BF (a0:ar)(a1:ar)(s0:Int):Option (Int⊕(Unit⊕Int)):=
 cond (decide (s0<((a0.au.getD []).length:Int)))
  (qa (qq (a0.au.getD []) s0) fun gQ=>
  qa (qq (a1.au.getD []) s0) fun v20=>
  cond (decide (gQ.name=v20.name)&&decide (gQ.kind=v20.kind)&&decide (gQ.count=v20.count)&&decide (gQ.left=v20.left)&&decide (gQ.held=v20.held))
   (En (.inl (qe .i64 (s0+1))))
   (En (.inr (.inl ()))))
  (En (.inr (.inr s0)))
def Pj (a0:ar)(a1:ar)(s0:Int):bf:=⟨[(2,.ai (aR a0),I),(3,.ai (aR a1),I),(5,Iv s0,I)],[]⟩
def Pl (a0:ar)(a1:ar):Unit⊕Int→je×bf
 | .inl d=>(.ret,⟨[(4,.bool I,I)],[]⟩)
 | .inr d=>(.exit 0,⟨[(2,.ai (aR a0),I),(3,.ai (aR a1),I),(5,Iv d,I),(44,.bool I,I)],[]⟩)
theorem j22 (a0:ar)(a1:ar)(s0:Int)(r)(h:BF a0 a1 s0=En r):jw pr Pm (Pj a0 a1) (Pl a0 a1) s0 r:=by
 unfold BF at h
 repeat' first|(replace h:=qb h;obtain⟨d,g,h⟩:=h)|(replace h:=qd h;rcases h with⟨g,h⟩|⟨g,h⟩)
 all_goals (cases h<;>((first|refine qx ?_|refine jq ?_);simp only[go_sem,seval,Pm,Pj,jg,Pl, *]<;>rfl))
theorem j7h (a0:ar)(a1:ar){s0 d}(h:bB (BF a0 a1) s0=En d):X pr (.loop Pm) (Pj a0 a1 s0)=En (Pl a0 a1 d):=ze (j22 a0 a1) h
def BG (a0:ar)(a1:ar)(s1:Int):Option (Int⊕(Unit⊕Int)):=
 cond (decide (s1<((a0.ae.getD []).length:Int)))
  (qa (qq (a0.ae.getD []) s1) fun nG=>
  qa (qq (a1.ae.getD []) s1) fun v46=>
  qa (f56 nG v46) fun Jj=>
  cond Jj
   (En (.inl (qe .i64 (s1+1))))
   (En (.inr (.inl ()))))
  (En (.inr (.inr s1)))
def Pn (a0:ar)(a1:ar)(s1:Int):bf:=⟨[(2,.ai (aR a0),I),(3,.ai (aR a1),I),(6,Iv s1,I)],[]⟩
def Po (a0:ar)(a1:ar):Unit⊕Int→je×bf
 | .inl d=>(.ret,⟨[(4,.bool I,I)],[]⟩)
 | .inr d=>(.exit 2,⟨[(2,.ai (aR a0),I),(3,.ai (aR a1),I),(6,Iv d,I),(62,.bool I,I)],[]⟩)
theorem jy0 (a0:ar)(a1:ar)(s1:Int)(r)(h:BG a0 a1 s1=En r):jw pr Pp (Pn a0 a1) (Po a0 a1) s1 r:=by
 unfold BG at h
 repeat' first|(replace h:=qb h;obtain⟨d,g,h⟩:=h;with_reducible first|replace g:=W56 g|skip)|(replace h:=qd h;rcases h with⟨g,h⟩|⟨g,h⟩)
 all_goals (cases h<;>((first|refine qx ?_|refine jq ?_);simp only[go_sem,seval,Pp,Pn,jg,Po, *]<;>rfl))
theorem j0u (a0:ar)(a1:ar){s1 d}(h:bB (BG a0 a1) s1=En d):X pr (.loop Pp) (Pn a0 a1 s1)=En (Po a0 a1 d):=ze (jy0 a0 a1) h
def BH (a0:ar)(a1:ar)(s2:Int):Option (Int⊕(Unit⊕Int)):=
 cond (decide (s2<((a0.units.getD []).length:Int)))
  (qa (qq (a0.units.getD []) s2) fun v72=>
  qa (qq (a1.units.getD []) s2) fun X9=>
  qa (f57 v72 X9) fun v76=>
  cond v76
   (En (.inl (qe .i64 (s2+1))))
   (En (.inr (.inl ()))))
  (En (.inr (.inr s2)))
def Pq (a0:ar)(a1:ar)(s2:Int):bf:=⟨[(2,.ai (aR a0),I),(3,.ai (aR a1),I),(7,Iv s2,I)],[]⟩
def Pr (a0:ar)(a1:ar):Unit⊕Int→je×bf
 | .inl d=>(.ret,⟨[(4,.bool I,I)],[]⟩)
 | .inr d=>(.exit 4,⟨[(2,.ai (aR a0),I),(3,.ai (aR a1),I),(7,Iv d,I),(81,.bool I,I)],[]⟩)
theorem jzl (a0:ar)(a1:ar)(s2:Int)(r)(h:BH a0 a1 s2=En r):jw pr Ps (Pq a0 a1) (Pr a0 a1) s2 r:=by
 unfold BH at h
 repeat' first|(replace h:=qb h;obtain⟨d,g,h⟩:=h;with_reducible first|replace g:=W57 g|skip)|(replace h:=qd h;rcases h with⟨g,h⟩|⟨g,h⟩)
 all_goals (cases h<;>((first|refine qx ?_|refine jq ?_);simp only[go_sem,seval,Ps,Pq,jg,Pr, *]<;>rfl))
theorem j65 (a0:ar)(a1:ar){s2 d}(h:bB (BH a0 a1) s2=En d):X pr (.loop Ps) (Pq a0 a1 s2)=En (Pr a0 a1 d):=ze (jzl a0 a1) h
def f17 (a0:ar)(a1:ar):Option Bool:=
 cond (decide (a0.day=a1.day))
  (cond (decide (((a0.au.getD []).length:Int)=((a1.au.getD []).length:Int)))
   (cond (decide (((a0.ae.getD []).length:Int)=((a1.ae.getD []).length:Int)))
    (cond (decide (((a0.units.getD []).length:Int)=((a1.units.getD []).length:Int)))
     (qa (bB (BF a0 a1) 0) fun d23=>match d23 with
      | .inl d25=>
       En I
      | .inr d26=>
       qa (bB (BG a0 a1) 0) fun d51=>match d51 with
        | .inl d53=>
         En I
        | .inr d54=>
         qa (bB (BH a0 a1) 0) fun d79=>match d79 with
          | .inl d81=>
           En I
          | .inr d82=>
           En Es)
     (En I))
    (En I))
   (En I))
  (En I)
theorem W17 {a0 a1 r}(h:f17 a0 a1=En r):qc pr (X pr) 17 [aR a0,aR a1]=En (.bool r,I):=by
 unfold f17 at h
 refine zd Pt ?_
 repeat' first|(replace h:=qb h;obtain⟨d,g,h⟩:=h;with_reducible first|(replace g:=j7h a0 a1 g;rcases d with d|d<;>dsimp only[Pj,Pl,zg]at g h)|(replace g:=j0u a0 a1 g;rcases d with d|d<;>dsimp only[Pn,Po,zg]at g h)|(replace g:=j65 a0 a1 g;rcases d with d|d<;>dsimp only[Pq,Pr,zg]at g h)|skip)|(replace h:=qd h;rcases h with⟨g,h⟩|⟨g,h⟩)
 all_goals (cases h<;>(simp only[go_sem,seval,Pt, *];exact⟨_,rfl⟩))
def f89 (a0:List UInt8):Option rH:=
 cond (decide (a0=([108,111,116]:List UInt8)))
  (En (⟨2,2,Es⟩))
  (cond (decide (a0=([112,114,111,100,117,99,116]:List UInt8)))
   (En (⟨1,1,Es⟩))
   (cond (decide (a0=([105,115,115,117,101]:List UInt8)))
    (En (⟨1,1,Es⟩))
    (cond (decide (a0=([117,112,100,97,116,101]:List UInt8)))
     (En (⟨1,1,Es⟩))
     (cond (decide (a0=([104,111,108,100]:List UInt8)))
      (En (⟨1,1,Es⟩))
      (cond (decide (a0=([102,114,101,101]:List UInt8)))
       (En (⟨1,1,Es⟩))
       (cond (decide (a0=([115,104,105,112]:List UInt8)))
        (En (⟨1,1,Es⟩))
        (cond (decide (a0=([99,111,109,112,108,97,105,110]:List UInt8)))
         (En (⟨1,1,Es⟩))
         (cond (decide (a0=([110,101,101,100]:List UInt8)))
          (En (⟨2,2,Es⟩))
          (cond (decide (a0=([117,115,101]:List UInt8)))
           (En (⟨2,2,Es⟩))
           (cond (decide (a0=([109,101,97,115,117,114,101]:List UInt8)))
            (En (⟨2,2,Es⟩))
            (cond (decide (a0=([116,101,115,116]:List UInt8)))
             (En (⟨2,3,Es⟩))
             (cond (decide (a0=([98,117,105,108,100]:List UInt8)))
              (En (⟨2,1,Es⟩))
              (cond (decide (a0=([112,97,105,114]:List UInt8)))
               (En (⟨2,1,Es⟩))
               (cond (decide (a0=([117,110,100,111]:List UInt8)))
                (En (⟨0,0,Es⟩))
                (En (⟨0,0,I⟩))))))))))))))))
theorem W89 {a0 r}(h:f89 a0=En r):qc pr (X pr) 89 [.str a0]=En (.agg [Iv r.names,Iv r.values,.bool r.known],I):=by
 unfold f89 at h
 refine zd JC ?_
 repeat' first|(replace h:=qd h;rcases h with⟨g,h⟩|⟨g,h⟩)
 all_goals (cases h<;>(simp only[go_sem,seval,JC, *];exact⟨_,rfl⟩))
def Bu (a0:GEv)(v4:rH)(s0:Int):Option (Int⊕(Unit⊕Int)):=
 cond (decide (s0<v4.names))
  (qa (qq (a0.names.getD []) s0) fun v22=>
  qa (f90 v22) fun v24=>
  cond v24
   (En (.inl (qe .i64 (s0+1))))
   (En (.inr (.inl ()))))
  (En (.inr (.inr s0)))
def Pu (a0:GEv)(v4:rH)(s0:Int):bf:=⟨[(1,.ai (aE a0),I),(3,.ai (.agg [Iv v4.names,Iv v4.values,.bool Es]),I),(4,Iv s0,I)],[]⟩
def Pv (a0:GEv)(v4:rH):Unit⊕Int→je×bf
 | .inl d=>(.ret,⟨[(2,Iv 8,I)],[]⟩)
 | .inr d=>(.exit 0,⟨[(1,.ai (aE a0),I),(3,.ai (.agg [Iv v4.names,Iv v4.values,.bool Es]),I),(4,Iv d,I),(32,.bool I,I)],[]⟩)
theorem j13 (a0:GEv)(v4:rH)(s0:Int)(r)(h:Bu a0 v4 s0=En r):jw pr Px (Pu a0 v4) (Pv a0 v4) s0 r:=by
 unfold Bu at h
 repeat' first|(replace h:=qb h;obtain⟨d,g,h⟩:=h;with_reducible first|replace g:=W90 g|skip)|(replace h:=qd h;rcases h with⟨g,h⟩|⟨g,h⟩)
 all_goals (cases h<;>((first|refine qx ?_|refine jq ?_);simp only[go_sem,seval,Px,Pu,jg,Pv, *]<;>rfl))
theorem jys (a0:GEv)(v4:rH){s0 d}(h:bB (Bu a0 v4) s0=En d):X pr (.loop Px) (Pu a0 v4 s0)=En (Pv a0 v4 d):=ze (j13 a0 v4) h
def Bv (a0:GEv)(v4:rH)(s1:Int):Option (Int⊕(Unit⊕Int)):=
 cond (decide (s1<v4.values))
  (qa (qq (a0.values.getD []) s1) fun nG=>
  qa (f88 nG 0 999999999) fun v46=>
  cond v46
   (En (.inr (.inl ())))
   (En (.inl (qe .i64 (s1+1)))))
  (En (.inr (.inr s1)))
def Py (a0:GEv)(v4:rH)(s1:Int):bf:=⟨[(1,.ai (aE a0),I),(3,.ai (.agg [Iv v4.names,Iv v4.values,.bool Es]),I),(5,Iv s1,I)],[]⟩
def Pz (a0:GEv)(v4:rH):Unit⊕Int→je×bf
 | .inl d=>(.ret,⟨[(2,Iv 3,I)],[]⟩)
 | .inr d=>(.exit 2,⟨[(1,.ai (aE a0),I),(3,.ai (.agg [Iv v4.names,Iv v4.values,.bool Es]),I),(5,Iv d,I),(45,.bool I,I)],[]⟩)
theorem j6i (a0:GEv)(v4:rH)(s1:Int)(r)(h:Bv a0 v4 s1=En r):jw pr PA (Py a0 v4) (Pz a0 v4) s1 r:=by
 unfold Bv at h
 repeat' first|(replace h:=qb h;obtain⟨d,g,h⟩:=h;with_reducible first|replace g:=X7 g|skip)|(replace h:=qd h;rcases h with⟨g,h⟩|⟨g,h⟩)
 all_goals (cases h<;>((first|refine qx ?_|refine jq ?_);simp only[go_sem,seval,PA,Py,jg,Pz, *]<;>rfl))
theorem j79 (a0:GEv)(v4:rH){s1 d}(h:bB (Bv a0 v4) s1=En d):X pr (.loop PA) (Py a0 v4 s1)=En (Pz a0 v4 d):=ze (j6i a0 v4) h
def f33 (a0:GEv):Option Int:=
 qa (f88 a0.number 1 1000) fun v1=>
 cond v1
  (En 3)
  (qa (f89 a0.kind) fun v4=>
  cond v4.known
   (cond (decide (((a0.names.getD []).length:Int)=v4.names))
    (cond (decide (((a0.values.getD []).length:Int)=v4.values))
     (qa (bB (Bu a0 v4) 0) fun d27=>match d27 with
      | .inl d29=>
       En 8
      | .inr d30=>
       qa (bB (Bv a0 v4) 0) fun d49=>match d49 with
        | .inl d51=>
         En 3
        | .inr d52=>
         cond (decide (a0.text=[]))
          (En 0)
          (En 1))
     (En 2))
    (En 2))
   (En 13))
theorem W33 {a0 r}(h:f33 a0=En r):qc pr (X pr) 33 [aE a0]=En (Iv r,I):=by
 unfold f33 at h
 refine zd PB ?_
 repeat' first|(replace h:=qb h;obtain⟨d,g,h⟩:=h;with_reducible first|replace g:=X7 g|replace g:=W89 g|(replace g:=jys a0 _ g;rcases d with d|d<;>dsimp only[Pu,Pv,zg]at g h)|(replace g:=j79 a0 _ g;rcases d with d|d<;>dsimp only[Py,Pz,zg]at g h)|skip)|(replace h:=qd h;rcases h with⟨g,h⟩|⟨g,h⟩)
 all_goals (cases h<;>(simp only[go_sem,seval,PB, *];exact⟨_,rfl⟩))
end Go.Z
end
