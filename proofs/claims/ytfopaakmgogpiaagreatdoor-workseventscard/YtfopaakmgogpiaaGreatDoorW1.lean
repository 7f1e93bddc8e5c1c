/- Chapter 10. -/
import Derived.Test.YtfopaakmgogpiaaGreatDoorCA
import Derived.Test.YtfopaakmgogpiaaGreatDoorAbsL
set_option linter.unusedVariables false
set_option linter.unusedSimpArgs false
set_option maxRecDepth 100000
set_option maxHeartbeats 4000000
noncomputable section
namespace Go.Z
open Go Go.Abs Go.W
def f53 (a0:Bool)(a1:Int):Option Int:=
 cond a0
  (some a1)
  (some 0)
theorem W53 {a0:Bool}{a1:Int}{r}(h:f53 a0 a1=some r):jy pr (X pr) 53 [.bool a0,Iv a1]=some (Iv r,false):=by
 unfold f53 at h
 refine y7 c53 ?_
 repeat' first|(replace h:=jz h;rcases h with⟨g,h⟩|⟨g,h⟩)|fail
 all_goals (cases h<;>(simp only[go_sem,seval,c53,*];exact⟨_,rfl⟩))
def qoz (a0:Option (List Int))(s0:Int):Option (Int⊕(Int⊕Int)):=
 cond (decide (s0<((a0.getD []).length:Int)))
  (jw (zo (a0.getD []) s0) fun v10=>
  cond (decide (v10=0))
   (some (.inl (j6 .i64 (s0+1))))
   (some (.inr (.inl v10))))
  (some (.inr (.inr s0)))
def qqm (a0:Option (List Int))(s0:Int):qg:=⟨[(5,sl 1 kr a0,false),(6,Lv a0,false),(7,Iv s0,false)],[]⟩
def qr8 (a0:Option (List Int)):Int⊕Int→qo×qg
 | .inl d=>(.ret,⟨[(2,Iv d,false)],[]⟩)
 | .inr d=>(.exit 0,⟨[(5,sl 1 kr a0,false),(6,Lv a0,false),(7,Iv d,false),(8,.bool false,false)],[]⟩)
theorem j04 (a0:Option (List Int))(s0:Int)(r)(h:qoz a0 s0=some r):yq pr qwx (qqm a0) (qr8 a0) s0 r:=by
 unfold qoz at h
 repeat' first|(replace h:=jx h;obtain⟨d,g,h⟩:=h)|(replace h:=jz h;rcases h with⟨g,h⟩|⟨g,h⟩)|fail
 all_goals (cases h<;>(first|(refine zw ?_;simp only[go_sem,seval,qwx,qqm,zn,qr8,*]<;>rfl)|(refine yl ?_;simp only[go_sem,seval,qwx,qqm,zn,qr8,*]<;>rfl)))
theorem j12 (a0:Option (List Int)){s0:Int}{d}(h:itO (qoz a0) s0=some d):X pr (.loop qwx) (qqm a0 s0)=some (qr8 a0 d):=y8 (j04 a0) (fun d=>by rcases d with d|d<;>(intro hh;cases hh)) h
def f51 (a0:Option (List Int)):Option Int:=
 jw (itO (qoz a0) 0) fun d13=>match d13 with
  | .inl d15=>
   some d15
  | .inr d16=>
   some 0
theorem W51 {a0:Option (List Int)}{r}(h:f51 a0=some r):jy pr (X pr) 51 [sl 1 kr a0]=some (Iv r,false):=by
 unfold f51 at h
 refine y7 c51 ?_
 repeat' first|(replace h:=jx h;obtain⟨d,g,h⟩:=h;with_reducible first|(replace g:=j12 a0 g;rcases d with d|d<;>dsimp only[qqm,qr8,kc]at g h)|skip)|(replace h:=jz h;rcases h with⟨g,h⟩|⟨g,h⟩)|fail
 all_goals (cases h<;>(simp only[go_sem,seval,c51,*];exact⟨_,rfl⟩))
def f52 (a0:Int)(a1:Int)(a2:Int):Option Int:=
 cond (decide (a0<a1))
  (jw (f53 true 3) fun v2=>
  some v2)
  (jw (f53 (decide (a2<a0)) 3) fun v4=>
  some v4)
theorem W52 {a0:Int}{a1:Int}{a2:Int}{r}(h:f52 a0 a1 a2=some r):jy pr (X pr) 52 [Iv a0,Iv a1,Iv a2]=some (Iv r,false):=by
 unfold f52 at h
 refine y7 c52 ?_
 repeat' first|(replace h:=jx h;obtain⟨d,g,h⟩:=h;with_reducible first|replace g:=W53 g|skip)|(replace h:=jz h;rcases h with⟨g,h⟩|⟨g,h⟩)|fail
 all_goals (cases h<;>(simp only[go_sem,seval,c52,*];exact⟨_,rfl⟩))
def qly (a0:List UInt8)(s0:Int):Option (Int⊕(Unit⊕Int)):=
 cond (decide (s0<(a0.length:Int)))
  (jw (zo a0 s0) fun v70=>
  cond (decide (65≤(v70.toNat:Int)))
   (cond (decide ((v70.toNat:Int)≤90))
    (cond (decide (48≤(v70.toNat:Int)))
     (cond (decide ((v70.toNat:Int)≤57))
      (some (.inl (j6 .i64 (s0+1))))
      (some (.inl (j6 .i64 (s0+1)))))
     (some (.inl (j6 .i64 (s0+1)))))
    (cond (decide (97≤(v70.toNat:Int)))
     (cond (decide (48≤(v70.toNat:Int)))
      (cond (decide ((v70.toNat:Int)≤57))
       (cond (decide ((v70.toNat:Int)≤122))
        (some (.inl (j6 .i64 (s0+1))))
        (cond (decide (s0=0))
         (some (.inr (.inl ())))
         (some (.inl (j6 .i64 (s0+1))))))
       (cond (decide ((v70.toNat:Int)≤122))
        (some (.inl (j6 .i64 (s0+1))))
        (cond (decide (s0=0))
         (some (.inr (.inl ())))
         (cond (decide ((v70.toNat:Int)=95))
          (some (.inl (j6 .i64 (s0+1))))
          (some (.inr (.inl ())))))))
      (cond (decide ((v70.toNat:Int)≤122))
       (some (.inl (j6 .i64 (s0+1))))
       (cond (decide (s0=0))
        (some (.inr (.inl ())))
        (cond (decide ((v70.toNat:Int)=95))
         (some (.inl (j6 .i64 (s0+1))))
         (some (.inr (.inl ())))))))
     (cond (decide (48≤(v70.toNat:Int)))
      (cond (decide ((v70.toNat:Int)≤57))
       (cond (decide (s0=0))
        (some (.inr (.inl ())))
        (some (.inl (j6 .i64 (s0+1)))))
       (cond (decide (s0=0))
        (some (.inr (.inl ())))
        (cond (decide ((v70.toNat:Int)=95))
         (some (.inl (j6 .i64 (s0+1))))
         (some (.inr (.inl ()))))))
      (cond (decide (s0=0))
       (some (.inr (.inl ())))
       (cond (decide ((v70.toNat:Int)=95))
        (some (.inl (j6 .i64 (s0+1))))
        (some (.inr (.inl ()))))))))
   (cond (decide (97≤(v70.toNat:Int)))
    (cond (decide (48≤(v70.toNat:Int)))
     (cond (decide ((v70.toNat:Int)≤57))
      (cond (decide ((v70.toNat:Int)≤122))
       (some (.inl (j6 .i64 (s0+1))))
       (cond (decide (s0=0))
        (some (.inr (.inl ())))
        (some (.inl (j6 .i64 (s0+1))))))
      (cond (decide ((v70.toNat:Int)≤122))
       (some (.inl (j6 .i64 (s0+1))))
       (cond (decide (s0=0))
        (some (.inr (.inl ())))
        (cond (decide ((v70.toNat:Int)=95))
         (some (.inl (j6 .i64 (s0+1))))
         (some (.inr (.inl ())))))))
     (cond (decide ((v70.toNat:Int)≤122))
      (some (.inl (j6 .i64 (s0+1))))
      (cond (decide (s0=0))
       (some (.inr (.inl ())))
       (cond (decide ((v70.toNat:Int)=95))
        (some (.inl (j6 .i64 (s0+1))))
        (some (.inr (.inl ())))))))
    (cond (decide (48≤(v70.toNat:Int)))
     (cond (decide ((v70.toNat:Int)≤57))
      (cond (decide (s0=0))
       (some (.inr (.inl ())))
       (some (.inl (j6 .i64 (s0+1)))))
      (cond (decide (s0=0))
       (some (.inr (.inl ())))
       (cond (decide ((v70.toNat:Int)=95))
        (some (.inl (j6 .i64 (s0+1))))
        (some (.inr (.inl ()))))))
     (cond (decide (s0=0))
      (some (.inr (.inl ())))
      (cond (decide ((v70.toNat:Int)=95))
       (some (.inl (j6 .i64 (s0+1))))
       (some (.inr (.inl ()))))))))
  (some (.inr (.inr s0)))
def qr7 (a0:List UInt8)(s0:Int):qg:=⟨[(0,.str a0,false),(3,Iv s0,false)],[]⟩
def qsz (a0:List UInt8):Unit⊕Int→qo×qg
 | .inl d=>(.ret,⟨[(2,.bool false,false)],[]⟩)
 | .inr d=>(.exit 0,⟨[(0,.str a0,false),(3,Iv d,false),(17,.bool false,false)],[]⟩)
theorem jx4 (a0:List UInt8)(s0:Int)(r)(h:qly a0 s0=some r):yq pr qvp (qr7 a0) (qsz a0) s0 r:=by
 unfold qly at h
 repeat' first|(replace h:=jx h;obtain⟨d,g,h⟩:=h)|(replace h:=jz h;rcases h with⟨g,h⟩|⟨g,h⟩)|fail
 all_goals (cases h<;>(first|(refine zw ?_;simp only[go_sem,seval,qvp,qr7,q19,qsz,*]<;>rfl)|(refine yl ?_;simp only[go_sem,seval,qvp,qr7,q19,qsz,*]<;>rfl)))
theorem jxc (a0:List UInt8){s0:Int}{d}(h:itO (qly a0) s0=some d):X pr (.loop qvp) (qr7 a0 s0)=some (qsz a0 d):=y8 (jx4 a0) (fun d=>by rcases d with d|d<;>(intro hh;cases hh)) h
def f26 (a0:List UInt8):Option Bool:=
 cond (decide ((a0.length:Int)=0))
  (some false)
  (cond (decide (24<(a0.length:Int)))
   (some false)
   (jw (itO (qly a0) 0) fun d112=>match d112 with
    | .inl d114=>
     some false
    | .inr d115=>
     some true))
theorem W26 {a0:List UInt8}{r}(h:f26 a0=some r):jy pr (X pr) 26 [.str a0]=some (.bool r,false):=by
 unfold f26 at h
 refine y7 c26 ?_
 repeat' first|(replace h:=jx h;obtain⟨d,g,h⟩:=h;with_reducible first|(replace g:=jxc a0 g;rcases d with d|d<;>dsimp only[qr7,qsz,kc]at g h)|skip)|(replace h:=jz h;rcases h with⟨g,h⟩|⟨g,h⟩)|fail
 all_goals (cases h<;>(simp only[go_sem,seval,c26,*];exact⟨_,rfl⟩))
def qi8 (a0:List UInt8):Option (Option (Nat)⊕(Nat⊕Nat)):=
 cond (decide (0<a0.length))
  (cond (decide (65≤((zg a0 0).1:Int)))
   (cond (decide (((zg a0 0).1:Int)≤90))
    (cond (decide (48≤((zg a0 0).1:Int)))
     (cond (decide (((zg a0 0).1:Int)≤57))
      (some (.inl (some (0+(zg a0 0).2))))
      (some (.inl (some (0+(zg a0 0).2)))))
     (some (.inl (some (0+(zg a0 0).2)))))
    (cond (decide (97≤((zg a0 0).1:Int)))
     (cond (decide (48≤((zg a0 0).1:Int)))
      (cond (decide (((zg a0 0).1:Int)≤57))
       (cond (decide (((zg a0 0).1:Int)≤122))
        (some (.inl (some (0+(zg a0 0).2))))
        (some (.inr (.inl (0+(zg a0 0).2)))))
       (cond (decide (((zg a0 0).1:Int)≤122))
        (some (.inl (some (0+(zg a0 0).2))))
        (some (.inr (.inl (0+(zg a0 0).2))))))
      (cond (decide (((zg a0 0).1:Int)≤122))
       (some (.inl (some (0+(zg a0 0).2))))
       (some (.inr (.inl (0+(zg a0 0).2))))))
     (cond (decide (48≤((zg a0 0).1:Int)))
      (cond (decide (((zg a0 0).1:Int)≤57))
       (some (.inr (.inl (0+(zg a0 0).2))))
       (some (.inr (.inl (0+(zg a0 0).2)))))
      (some (.inr (.inl (0+(zg a0 0).2)))))))
   (cond (decide (97≤((zg a0 0).1:Int)))
    (cond (decide (48≤((zg a0 0).1:Int)))
     (cond (decide (((zg a0 0).1:Int)≤57))
      (cond (decide (((zg a0 0).1:Int)≤122))
       (some (.inl (some (0+(zg a0 0).2))))
       (some (.inr (.inl (0+(zg a0 0).2)))))
      (cond (decide (((zg a0 0).1:Int)≤122))
       (some (.inl (some (0+(zg a0 0).2))))
       (some (.inr (.inl (0+(zg a0 0).2))))))
     (cond (decide (((zg a0 0).1:Int)≤122))
      (some (.inl (some (0+(zg a0 0).2))))
      (some (.inr (.inl (0+(zg a0 0).2))))))
    (cond (decide (48≤((zg a0 0).1:Int)))
     (cond (decide (((zg a0 0).1:Int)≤57))
      (some (.inr (.inl (0+(zg a0 0).2))))
      (some (.inr (.inl (0+(zg a0 0).2)))))
     (some (.inr (.inl (0+(zg a0 0).2)))))))
  (some (.inr (.inr 0)))
def qi9 (a0:List UInt8)(s0:Nat):Option (Option (Nat)⊕(Nat⊕Nat)):=
 cond (decide (s0<a0.length))
  (cond (decide (65≤((zg a0 s0).1:Int)))
   (cond (decide (((zg a0 s0).1:Int)≤90))
    (cond (decide (48≤((zg a0 s0).1:Int)))
     (cond (decide (((zg a0 s0).1:Int)≤57))
      (some (.inl (some (s0+(zg a0 s0).2))))
      (some (.inl (some (s0+(zg a0 s0).2)))))
     (some (.inl (some (s0+(zg a0 s0).2)))))
    (cond (decide (97≤((zg a0 s0).1:Int)))
     (cond (decide (48≤((zg a0 s0).1:Int)))
      (cond (decide (((zg a0 s0).1:Int)≤57))
       (cond (decide (((zg a0 s0).1:Int)≤122))
        (some (.inl (some (s0+(zg a0 s0).2))))
        (cond (decide ((s0:Int)=0))
         (some (.inr (.inl (s0+(zg a0 s0).2))))
         (some (.inl (some (s0+(zg a0 s0).2))))))
       (cond (decide (((zg a0 s0).1:Int)≤122))
        (some (.inl (some (s0+(zg a0 s0).2))))
        (cond (decide ((s0:Int)=0))
         (some (.inr (.inl (s0+(zg a0 s0).2))))
         (cond (decide (((zg a0 s0).1:Int)=95))
          (some (.inl (some (s0+(zg a0 s0).2))))
          (some (.inr (.inl (s0+(zg a0 s0).2))))))))
      (cond (decide (((zg a0 s0).1:Int)≤122))
       (some (.inl (some (s0+(zg a0 s0).2))))
       (cond (decide ((s0:Int)=0))
        (some (.inr (.inl (s0+(zg a0 s0).2))))
        (cond (decide (((zg a0 s0).1:Int)=95))
         (some (.inl (some (s0+(zg a0 s0).2))))
         (some (.inr (.inl (s0+(zg a0 s0).2))))))))
     (cond (decide (48≤((zg a0 s0).1:Int)))
      (cond (decide (((zg a0 s0).1:Int)≤57))
       (cond (decide ((s0:Int)=0))
        (some (.inr (.inl (s0+(zg a0 s0).2))))
        (some (.inl (some (s0+(zg a0 s0).2)))))
       (cond (decide ((s0:Int)=0))
        (some (.inr (.inl (s0+(zg a0 s0).2))))
        (cond (decide (((zg a0 s0).1:Int)=95))
         (some (.inl (some (s0+(zg a0 s0).2))))
         (some (.inr (.inl (s0+(zg a0 s0).2)))))))
      (cond (decide ((s0:Int)=0))
       (some (.inr (.inl (s0+(zg a0 s0).2))))
       (cond (decide (((zg a0 s0).1:Int)=95))
        (some (.inl (some (s0+(zg a0 s0).2))))
        (some (.inr (.inl (s0+(zg a0 s0).2)))))))))
   (cond (decide (97≤((zg a0 s0).1:Int)))
    (cond (decide (48≤((zg a0 s0).1:Int)))
     (cond (decide (((zg a0 s0).1:Int)≤57))
      (cond (decide (((zg a0 s0).1:Int)≤122))
       (some (.inl (some (s0+(zg a0 s0).2))))
       (cond (decide ((s0:Int)=0))
        (some (.inr (.inl (s0+(zg a0 s0).2))))
        (some (.inl (some (s0+(zg a0 s0).2))))))
      (cond (decide (((zg a0 s0).1:Int)≤122))
       (some (.inl (some (s0+(zg a0 s0).2))))
       (cond (decide ((s0:Int)=0))
        (some (.inr (.inl (s0+(zg a0 s0).2))))
        (cond (decide (((zg a0 s0).1:Int)=95))
         (some (.inl (some (s0+(zg a0 s0).2))))
         (some (.inr (.inl (s0+(zg a0 s0).2))))))))
     (cond (decide (((zg a0 s0).1:Int)≤122))
      (some (.inl (some (s0+(zg a0 s0).2))))
      (cond (decide ((s0:Int)=0))
       (some (.inr (.inl (s0+(zg a0 s0).2))))
       (cond (decide (((zg a0 s0).1:Int)=95))
        (some (.inl (some (s0+(zg a0 s0).2))))
        (some (.inr (.inl (s0+(zg a0 s0).2))))))))
    (cond (decide (48≤((zg a0 s0).1:Int)))
     (cond (decide (((zg a0 s0).1:Int)≤57))
      (cond (decide ((s0:Int)=0))
       (some (.inr (.inl (s0+(zg a0 s0).2))))
       (some (.inl (some (s0+(zg a0 s0).2)))))
      (cond (decide ((s0:Int)=0))
       (some (.inr (.inl (s0+(zg a0 s0).2))))
       (cond (decide (((zg a0 s0).1:Int)=95))
        (some (.inl (some (s0+(zg a0 s0).2))))
        (some (.inr (.inl (s0+(zg a0 s0).2)))))))
     (cond (decide ((s0:Int)=0))
      (some (.inr (.inl (s0+(zg a0 s0).2))))
      (cond (decide (((zg a0 s0).1:Int)=95))
       (some (.inl (some (s0+(zg a0 s0).2))))
       (some (.inr (.inl (s0+(zg a0 s0).2)))))))))
  (some (.inr (.inr s0)))
def qvc (a0:List UInt8):Option (Nat)→Option (Option (Nat)⊕(Nat⊕Nat))
 |none=>qi8 a0
 |some x=>qi9 a0 x
def qmv (a0:List UInt8)(s0:Nat):qg:=⟨[(0,.str a0,false),(8,.ptr 0 0,false),(46,.bool false,false)],[.iter a0 s0]⟩
def qhi (a0:List UInt8):Option (Nat)→qg
 |none=>⟨[(0,.str a0,false),(8,.ptr 0 0,false)],[.iter a0 0]⟩
 |some x=>qmv a0 x
def qhg (a0:List UInt8):Nat⊕Nat→qo×qg
 | .inl d=>(.ret,⟨[(2,.bool false,false)],[.iter a0 d]⟩)
 | .inr d=>(.exit 0,⟨[(0,.str a0,false),(8,.ptr 0 0,false),(9,.tup [.bool false],false),(10,.bool false,false)],[.iter a0 d]⟩)
theorem jo5 (a0:List UInt8)(r)(h:qi8 a0=some r):yq pr qjz (qhi a0) (qhg a0) none r:=by
 unfold qi8 at h
 repeat' first|(replace h:=jz h;rcases h with⟨g,h⟩|⟨g,h⟩)|fail
 all_goals (cases h<;>(first|(refine zw ?_;simp only[go_sem,seval,qjz,qhi,qmv,qiu,qhg,*]<;>rfl)|(refine yl ?_;simp only[go_sem,seval,qjz,qhi,qmv,qiu,qhg,*]<;>rfl)))
theorem jn7 (a0:List UInt8)(s0:Nat)(r)(h:qi9 a0 s0=some r):yq pr qjz (qhi a0) (qhg a0) (some s0) r:=by
 unfold qi9 at h
 repeat' first|(replace h:=jz h;rcases h with⟨g,h⟩|⟨g,h⟩)|fail
 all_goals (cases h<;>(first|(refine zw ?_;simp only[go_sem,seval,qjz,qhi,qmv,qiu,qhg,*]<;>rfl)|(refine yl ?_;simp only[go_sem,seval,qjz,qhi,qmv,qiu,qhg,*]<;>rfl)))
theorem jwn (a0:List UInt8):∀(x:Option (Nat)) (r) (h:qvc a0 x=some r),yq pr qjz (qhi a0) (qhg a0) x r
 |none,r,h=>jo5 a0 r h
 |some x,r,h=>jn7 a0 x r h
theorem j3a (a0:List UInt8){s0:Option (Nat)}{d}(h:itO (qvc a0) s0=some d):X pr (.loop qjz) (qhi a0 s0)=some (qhg a0 d):=y8 (jwn a0) (fun d=>by rcases d with d|d<;>(intro hh;cases hh)) h
def f56 (a0:List UInt8):Option Bool:=
 jw (itO (qvc a0) none) fun d192=>match d192 with
  | .inl d194=>
   some false
  | .inr d195=>
   cond (decide (a0=[]))
    (some false)
    (some (decide ((a0.length:Int)≤24)))
theorem W56 {a0:List UInt8}{r}(h:f56 a0=some r):jy pr (X pr) 56 [.str a0]=some (.bool r,false):=by
 unfold f56 at h
 refine y7 c56 ?_
 repeat' first|(replace h:=jx h;obtain⟨d,g,h⟩:=h;with_reducible first|(replace g:=j3a a0 g;rcases d with d|d<;>dsimp only[qhi,qhg,kc]at g h)|skip)|(replace h:=jz h;rcases h with⟨g,h⟩|⟨g,h⟩)|fail
 all_goals (cases h<;>(simp only[go_sem,seval,c56,*];exact⟨_,rfl⟩))
end Go.Z
namespace Go.Z
open Go Go.Abs Go.W
def qyt (a0:List UInt8):Option Int:=
 jw (f56 a0) fun v1=>
 jw (f53 (!v1) 8) fun v3=>
 some v3
theorem zcr (hp:j8){a0:List UInt8}{r}(h:qyt a0=some r):zf pr (X pr) 55 [.str a0] hp=some (Iv r,false,hp):=by
 unfold qyt at h
 obtain⟨v1,h2,h⟩:=jx h
 have wh2:jy pr (X pr) 56 [.str a0]=some (.bool v1,false):=W56 h2
 obtain⟨v3,h4,h⟩:=jx h
 have wh4:jy pr (X pr) 53 [.bool (!v1),Iv 8]=some (Iv v3,false):=W53 h4
 have hr:v3=r:=Option.some.inj h
 subst hr
 rw[zd (show pr.fns 55=some c55 from rfl) (by simp)]
 simp only[go_sem,seval,c55,wh2,wh4]<;>rfl
def qzl (a0:Int):Option Int:=
 jw (f52 a0 0 999999999) fun v1=>
 some v1
theorem za2 (hp:j8){a0:Int}{r}(h:qzl a0=some r):zf pr (X pr) 58 [Iv a0] hp=some (Iv r,false,hp):=by
 unfold qzl at h
 obtain⟨v1,h2,h⟩:=jx h
 have wh2:jy pr (X pr) 52 [Iv a0,Iv 0,Iv 999999999]=some (Iv v1,false):=W52 h2
 have hr:v1=r:=Option.some.inj h
 subst hr
 rw[zd (show pr.fns 58=some c58 from rfl) (by simp)]
 simp only[go_sem,seval,c58,wh2]<;>rfl
def qv2 (a0:Option (List (List UInt8)))(s0:(Option (List Int))×Int×Bool):Option (((Option (List Int))×Int×Bool)⊕(((Option (List Int))×Bool×Int))):=
 cond (decide (s0.2.1<((a0.getD []).length:Int)))
  (jw (zo (a0.getD []) s0.2.1) fun v18=>
  jw (qyt v18) fun v20=>
  cond s0.2.2
   (jw (apO s0.1 [v20]) fun v23=>
   some (.inl (v23,j6 .i64 (s0.2.1+1),true)))
   (cond s0.1.isNone
    (jw (apO s0.1 [v20]) fun v26=>
    some (.inl (v26,j6 .i64 (s0.2.1+1),true)))
    (none)))
  (some (.inr (s0.1,s0.2.2,s0.2.1)))
def qr6 (a0:Option (List (List UInt8)))(s0:(Option (List Int))×Int×Bool):qg:=⟨[(1,.fn (.func 55) [] [],false),(5,sl 1 kr s0.1,s0.2.2),(8,sl 1 qae a0,false),(9,Lv a0,false),(10,Iv s0.2.1,false)],[]⟩
def qsa (a0:Option (List (List UInt8)))(d:((Option (List Int))×Bool×Int)):qo×qg:=(.exit 0,⟨[(1,.fn (.func 55) [] [],false),(5,sl 1 kr d.1,d.2.1),(8,sl 1 qae a0,false),(9,Lv a0,false),(10,Iv d.2.2,false),(11,.bool false,false)],[]⟩)
theorem j15 (a0:Option (List (List UInt8)))(s0:(Option (List Int))×Int×Bool)(r)(h:qv2 a0 s0=some r):yq pr qva (qr6 a0) (qsa a0) s0 r:=by
 unfold qv2 at h
 repeat' first|(replace h:=jx h;obtain⟨d,g,h⟩:=h;with_reducible first|replace g:=zcr [] g|replace g:=q59 g|skip)|(replace h:=jz h;rcases h with⟨g,h⟩|⟨g,h⟩)|fail
 all_goals (cases h<;>(first|(refine zw ?_;simp only[go_sem,seval,qva,qr6,zn,qsa,*]<;>rfl)|(refine yl ?_;simp only[go_sem,seval,qva,qr6,zn,qsa,*]<;>rfl)))
theorem j1h (a0:Option (List (List UInt8))){s0:(Option (List Int))×Int×Bool}{d}(h:itO (qv2 a0) s0=some d):X pr (.loop qva) (qr6 a0 s0)=some (qsa a0 d):=y8 (j15 a0) (fun d hh=>by cases hh) h
def f54 (a0:Option (List (List UInt8))):Option ((Option (List Int))×Bool):=
 jw (itO (qv2 a0) (none,0,false)) fun d28=>
 some (d28.1,d28.2.1)
theorem W54 {a0:Option (List (List UInt8))}{r}(h:f54 a0=some r):jy pr (X pr) 54 [sl 1 qae a0,.fn (.func 55) [] []]=some (sl 1 kr r.1,r.2):=by
 unfold f54 at h
 refine qa5 c54 ?_
 repeat' first|(replace h:=jx h;obtain⟨d,g,h⟩:=h;with_reducible first|(replace g:=j1h a0 g;dsimp only[qr6,qsa,kc]at g h)|skip)|(replace h:=jz h;rcases h with⟨g,h⟩|⟨g,h⟩)|fail
 all_goals (cases h<;>(simp only[go_sem,seval,c54,*];exact⟨_,rfl⟩))
def qxy (a0:Option (List Int))(s0:(Option (List Int))×Int×Bool):Option (((Option (List Int))×Int×Bool)⊕(((Option (List Int))×Bool×Int))):=
 cond (decide (s0.2.1<((a0.getD []).length:Int)))
  (jw (zo (a0.getD []) s0.2.1) fun v18=>
  jw (qzl v18) fun v20=>
  cond s0.2.2
   (jw (apO s0.1 [v20]) fun v23=>
   some (.inl (v23,j6 .i64 (s0.2.1+1),true)))
   (cond s0.1.isNone
    (jw (apO s0.1 [v20]) fun v26=>
    some (.inl (v26,j6 .i64 (s0.2.1+1),true)))
    (none)))
  (some (.inr (s0.1,s0.2.2,s0.2.1)))
def qq3 (a0:Option (List Int))(s0:(Option (List Int))×Int×Bool):qg:=⟨[(1,.fn (.func 58) [] [],false),(5,sl 1 kr s0.1,s0.2.2),(8,sl 1 kr a0,false),(9,Lv a0,false),(10,Iv s0.2.1,false)],[]⟩
def qqs (a0:Option (List Int))(d:((Option (List Int))×Bool×Int)):qo×qg:=(.exit 0,⟨[(1,.fn (.func 58) [] [],false),(5,sl 1 kr d.1,d.2.1),(8,sl 1 kr a0,false),(9,Lv a0,false),(10,Iv d.2.2,false),(11,.bool false,false)],[]⟩)
theorem j19 (a0:Option (List Int))(s0:(Option (List Int))×Int×Bool)(r)(h:qxy a0 s0=some r):yq pr qvq (qq3 a0) (qqs a0) s0 r:=by
 unfold qxy at h
 repeat' first|(replace h:=jx h;obtain⟨d,g,h⟩:=h;with_reducible first|replace g:=za2 [] g|replace g:=q59 g|skip)|(replace h:=jz h;rcases h with⟨g,h⟩|⟨g,h⟩)|fail
 all_goals (cases h<;>(first|(refine zw ?_;simp only[go_sem,seval,qvq,qq3,zn,qqs,*]<;>rfl)|(refine yl ?_;simp only[go_sem,seval,qvq,qq3,zn,qqs,*]<;>rfl)))
theorem jwr (a0:Option (List Int)){s0:(Option (List Int))×Int×Bool}{d}(h:itO (qxy a0) s0=some d):X pr (.loop qvq) (qq3 a0 s0)=some (qqs a0 d):=y8 (j19 a0) (fun d hh=>by cases hh) h
def f57 (a0:Option (List Int)):Option ((Option (List Int))×Bool):=
 jw (itO (qxy a0) (none,0,false)) fun d28=>
 some (d28.1,d28.2.1)
theorem W57 {a0:Option (List Int)}{r}(h:f57 a0=some r):jy pr (X pr) 57 [sl 1 kr a0,.fn (.func 58) [] []]=some (sl 1 kr r.1,r.2):=by
 unfold f57 at h
 refine qa5 c57 ?_
 repeat' first|(replace h:=jx h;obtain⟨d,g,h⟩:=h;with_reducible first|(replace g:=jwr a0 g;dsimp only[qq3,qqs,kc]at g h)|skip)|(replace h:=jz h;rcases h with⟨g,h⟩|⟨g,h⟩)|fail
 all_goals (cases h<;>(simp only[go_sem,seval,c57,*];exact⟨_,rfl⟩))
def f122 (a0:Option (List (List UInt8))):Option ((Option (List (List UInt8)))×Bool):=
 cond a0.isNone
  (some (none,false))
  (jw (apO (some []) (a0.getD [])) fun v2=>
  some (v2,true))
theorem zb0 {a0:Option (List (List UInt8))}{r}(h:f122 a0=some r):jy pr (X pr) 122 [sl 1 qae a0]=some (sl 1 qae r.1,r.2):=by
 unfold f122 at h
 refine qa5 c122 ?_
 repeat' first|(replace h:=jx h;obtain⟨d,g,h⟩:=h)|(replace h:=jz h;rcases h with⟨g,h⟩|⟨g,h⟩)|fail
 all_goals (cases h<;>(simp only[go_sem,seval,c122,qa0,*];exact⟨_,rfl⟩))
def f123 (a0:Option (List Int)):Option ((Option (List Int))×Bool):=
 cond a0.isNone
  (some (none,false))
  (jw (apO (some []) (a0.getD [])) fun v2=>
  some (v2,true))
theorem zc5 {a0:Option (List Int)}{r}(h:f123 a0=some r):jy pr (X pr) 123 [sl 1 kr a0]=some (sl 1 kr r.1,r.2):=by
 unfold f123 at h
 refine qa5 c123 ?_
 repeat' first|(replace h:=jx h;obtain⟨d,g,h⟩:=h)|(replace h:=jz h;rcases h with⟨g,h⟩|⟨g,h⟩)|fail
 all_goals (cases h<;>(simp only[go_sem,seval,c123,qa0,*];exact⟨_,rfl⟩))
def f66 (a0:ql):Option ql:=
 jw (f122 a0.names) fun v1=>
 jw (f123 a0.values) fun v3=>
 cond v1.2
  (cond v3.2
   (some (⟨a0.number,a0.kind,v1.1,v3.1,a0.text⟩))
   (some (⟨a0.number,a0.kind,v1.1,v3.1,a0.text⟩)))
  (cond v3.2
   (some (⟨a0.number,a0.kind,v1.1,v3.1,a0.text⟩))
   (some (⟨a0.number,a0.kind,v1.1,v3.1,a0.text⟩)))
theorem W66 {a0:ql}{r}(h:f66 a0=some r):jy pr (X pr) 66 [aE a0]=some (aE r,false):=by
 unfold f66 at h
 refine y7 c66 ?_
 repeat' first|(replace h:=jx h;obtain⟨d,g,h⟩:=h;with_reducible first|replace g:=zb0 g|replace g:=zc5 g|skip)|(replace h:=jz h;rcases h with⟨g,h⟩|⟨g,h⟩)|fail
 all_goals (cases h<;>(simp only[go_sem,seval,c66,*];exact⟨_,rfl⟩))
end Go.Z
end
