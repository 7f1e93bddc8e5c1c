/- Chapter 10. -/
import Derived.Test.YtfopaakmgogpiaaGreatDoorCA
set_option linter.unusedVariables false
set_option linter.unusedSimpArgs false
set_option maxRecDepth 100000
set_option maxHeartbeats 4000000
noncomputable section
open Option renaming some→I,none→En
open Bool renaming false→Eh,true→Ek
namespace Go.Z
open Go Go.Abs Go.W
def f53 (a0:Bool)(a1:Int):Option Int:=
 cond a0
  (I a1)
  (I 0)
theorem fC {a0 a1 r}(h:f53 a0 a1=I r):jy pr (X pr) 53 [.bool a0,Iv a1]=I (Iv r,Eh):=by
 unfold f53 at h
 refine yz JO ?_
 repeat' first|(replace h:=jz h;rcases h with⟨g,h⟩|⟨g,h⟩)|fail
 all_goals (cases h<;>(simp only[go_sem,seval,JO, *];exact⟨_,rfl⟩))
def wv (a0:Option (List Int))(s0:Int):Option (Int⊕(Int⊕Int)):=
 cond (decide (s0<((a0.getD []).length:Int)))
  (jw (zn (a0.getD []) s0) fun v10=>
  cond (decide (v10=0))
   (I (.inl (j6 .i64 (s0+1))))
   (I (.inr (.inl v10))))
  (I (.inr (.inr s0)))
def JP (a0:Option (List Int))(s0:Int):qg:=⟨[(5,sl 1 kh a0,Eh),(6,Lv a0,Eh),(7,Iv s0,Eh)],[]⟩
def JQ (a0:Option (List Int)):Int⊕Int→qi×qg
 | .inl d=>(.ret,⟨[(2,Iv d,Eh)],[]⟩)
 | .inr d=>(.exit 0,⟨[(5,sl 1 kh a0,Eh),(6,Lv a0,Eh),(7,Iv d,Eh),(8,.bool Eh,Eh)],[]⟩)
theorem j1a (a0:Option (List Int))(s0:Int)(r)(h:wv a0 s0=I r):yr pr JR (JP a0) (JQ a0) s0 r:=by
 unfold wv at h
 repeat' first|(replace h:=jx h;obtain⟨d,g,h⟩:=h)|(replace h:=jz h;rcases h with⟨g,h⟩|⟨g,h⟩)|fail
 all_goals (cases h<;>(first|(refine zu ?_;simp only[go_sem,seval,JR,JP,zj,JQ, *]<;>rfl)|(refine yl ?_;simp only[go_sem,seval,JR,JP,zj,JQ, *]<;>rfl)))
theorem j7x (a0:Option (List Int)){s0 d}(h:aY (wv a0) s0=I d):X pr (.loop JR) (JP a0 s0)=I (JQ a0 d):=y8 (j1a a0) (fun d=>by rcases d with d|d<;>(intro hh;cases hh)) h
def f51 (a0:Option (List Int)):Option Int:=
 jw (aY (wv a0) 0) fun d13=>match d13 with
  | .inl d15=>
   I d15
  | .inr d16=>
   I 0
theorem lV {a0 r}(h:f51 a0=I r):jy pr (X pr) 51 [sl 1 kh a0]=I (Iv r,Eh):=by
 unfold f51 at h
 refine yz JS ?_
 repeat' first|(replace h:=jx h;obtain⟨d,g,h⟩:=h;with_reducible first|(replace g:=j7x a0 g;rcases d with d|d<;>dsimp only[JP,JQ,y7]at g h)|skip)|(replace h:=jz h;rcases h with⟨g,h⟩|⟨g,h⟩)|fail
 all_goals (cases h<;>(simp only[go_sem,seval,JS, *];exact⟨_,rfl⟩))
def f52 (a0:Int)(a1:Int)(a2:Int):Option Int:=
 cond (decide (a0<a1))
  (jw (f53 Ek 3) fun v2=>
  I v2)
  (jw (f53 (decide (a2<a0)) 3) fun v4=>
  I v4)
theorem PE {a0 a1 a2 r}(h:f52 a0 a1 a2=I r):jy pr (X pr) 52 [Iv a0,Iv a1,Iv a2]=I (Iv r,Eh):=by
 unfold f52 at h
 refine yz JT ?_
 repeat' first|(replace h:=jx h;obtain⟨d,g,h⟩:=h;with_reducible first|replace g:=fC g|skip)|(replace h:=jz h;rcases h with⟨g,h⟩|⟨g,h⟩)|fail
 all_goals (cases h<;>(simp only[go_sem,seval,JT, *];exact⟨_,rfl⟩))
def f25 (a0:Bool)(a1:Int):Option Int:=
 cond a0
  (I a1)
  (I 0)
theorem W25 {a0 a1 r}(h:f25 a0 a1=I r):jy pr (X pr) 25 [.bool a0,Iv a1]=I (Iv r,Eh):=by
 unfold f25 at h
 refine yz JU ?_
 repeat' first|(replace h:=jz h;rcases h with⟨g,h⟩|⟨g,h⟩)|fail
 all_goals (cases h<;>(simp only[go_sem,seval,JU, *];exact⟨_,rfl⟩))
def yL (a0:List UInt8)(s0:Int):Option (Int⊕(Unit⊕Int)):=
 cond (decide (s0<(a0.length:Int)))
  (jw (zn a0 s0) fun v70=>
  cond (decide (65≤(v70.toNat:Int)))
   (cond (decide ((v70.toNat:Int)≤90))
    (cond (decide (48≤(v70.toNat:Int)))
     (cond (decide ((v70.toNat:Int)≤57))
      (I (.inl (j6 .i64 (s0+1))))
      (I (.inl (j6 .i64 (s0+1)))))
     (I (.inl (j6 .i64 (s0+1)))))
    (cond (decide (97≤(v70.toNat:Int)))
     (cond (decide (48≤(v70.toNat:Int)))
      (cond (decide ((v70.toNat:Int)≤57))
       (cond (decide ((v70.toNat:Int)≤122))
        (I (.inl (j6 .i64 (s0+1))))
        (cond (decide (s0=0))
         (I (.inr (.inl ())))
         (I (.inl (j6 .i64 (s0+1))))))
       (cond (decide ((v70.toNat:Int)≤122))
        (I (.inl (j6 .i64 (s0+1))))
        (cond (decide (s0=0))
         (I (.inr (.inl ())))
         (cond (decide ((v70.toNat:Int)=95))
          (I (.inl (j6 .i64 (s0+1))))
          (I (.inr (.inl ())))))))
      (cond (decide ((v70.toNat:Int)≤122))
       (I (.inl (j6 .i64 (s0+1))))
       (cond (decide (s0=0))
        (I (.inr (.inl ())))
        (cond (decide ((v70.toNat:Int)=95))
         (I (.inl (j6 .i64 (s0+1))))
         (I (.inr (.inl ())))))))
     (cond (decide (48≤(v70.toNat:Int)))
      (cond (decide ((v70.toNat:Int)≤57))
       (cond (decide (s0=0))
        (I (.inr (.inl ())))
        (I (.inl (j6 .i64 (s0+1)))))
       (cond (decide (s0=0))
        (I (.inr (.inl ())))
        (cond (decide ((v70.toNat:Int)=95))
         (I (.inl (j6 .i64 (s0+1))))
         (I (.inr (.inl ()))))))
      (cond (decide (s0=0))
       (I (.inr (.inl ())))
       (cond (decide ((v70.toNat:Int)=95))
        (I (.inl (j6 .i64 (s0+1))))
        (I (.inr (.inl ()))))))))
   (cond (decide (97≤(v70.toNat:Int)))
    (cond (decide (48≤(v70.toNat:Int)))
     (cond (decide ((v70.toNat:Int)≤57))
      (cond (decide ((v70.toNat:Int)≤122))
       (I (.inl (j6 .i64 (s0+1))))
       (cond (decide (s0=0))
        (I (.inr (.inl ())))
        (I (.inl (j6 .i64 (s0+1))))))
      (cond (decide ((v70.toNat:Int)≤122))
       (I (.inl (j6 .i64 (s0+1))))
       (cond (decide (s0=0))
        (I (.inr (.inl ())))
        (cond (decide ((v70.toNat:Int)=95))
         (I (.inl (j6 .i64 (s0+1))))
         (I (.inr (.inl ())))))))
     (cond (decide ((v70.toNat:Int)≤122))
      (I (.inl (j6 .i64 (s0+1))))
      (cond (decide (s0=0))
       (I (.inr (.inl ())))
       (cond (decide ((v70.toNat:Int)=95))
        (I (.inl (j6 .i64 (s0+1))))
        (I (.inr (.inl ())))))))
    (cond (decide (48≤(v70.toNat:Int)))
     (cond (decide ((v70.toNat:Int)≤57))
      (cond (decide (s0=0))
       (I (.inr (.inl ())))
       (I (.inl (j6 .i64 (s0+1)))))
      (cond (decide (s0=0))
       (I (.inr (.inl ())))
       (cond (decide ((v70.toNat:Int)=95))
        (I (.inl (j6 .i64 (s0+1))))
        (I (.inr (.inl ()))))))
     (cond (decide (s0=0))
      (I (.inr (.inl ())))
      (cond (decide ((v70.toNat:Int)=95))
       (I (.inl (j6 .i64 (s0+1))))
       (I (.inr (.inl ()))))))))
  (I (.inr (.inr s0)))
def JV (a0:List UInt8)(s0:Int):qg:=⟨[(0,.str a0,Eh),(3,Iv s0,Eh)],[]⟩
def JW (a0:List UInt8):Unit⊕Int→qi×qg
 | .inl d=>(.ret,⟨[(2,.bool Eh,Eh)],[]⟩)
 | .inr d=>(.exit 0,⟨[(0,.str a0,Eh),(3,Iv d,Eh),(17,.bool Eh,Eh)],[]⟩)
theorem j50 (a0:List UInt8)(s0:Int)(r)(h:yL a0 s0=I r):yr pr JX (JV a0) (JW a0) s0 r:=by
 unfold yL at h
 repeat' first|(replace h:=jx h;obtain⟨d,g,h⟩:=h)|(replace h:=jz h;rcases h with⟨g,h⟩|⟨g,h⟩)|fail
 all_goals (cases h<;>(first|(refine zu ?_;simp only[go_sem,seval,JX,JV,q47,JW, *]<;>rfl)|(refine yl ?_;simp only[go_sem,seval,JX,JV,q47,JW, *]<;>rfl)))
theorem j7w (a0:List UInt8){s0 d}(h:aY (yL a0) s0=I d):X pr (.loop JX) (JV a0 s0)=I (JW a0 d):=y8 (j50 a0) (fun d=>by rcases d with d|d<;>(intro hh;cases hh)) h
def f26 (a0:List UInt8):Option Bool:=
 cond (decide ((a0.length:Int)=0))
  (I Eh)
  (cond (decide (24<(a0.length:Int)))
   (I Eh)
   (jw (aY (yL a0) 0) fun d112=>match d112 with
    | .inl d114=>
     I Eh
    | .inr d115=>
     I Ek))
theorem W26 {a0 r}(h:f26 a0=I r):jy pr (X pr) 26 [.str a0]=I (.bool r,Eh):=by
 unfold f26 at h
 refine yz PF ?_
 repeat' first|(replace h:=jx h;obtain⟨d,g,h⟩:=h;with_reducible first|(replace g:=j7w a0 g;rcases d with d|d<;>dsimp only[JV,JW,y7]at g h)|skip)|(replace h:=jz h;rcases h with⟨g,h⟩|⟨g,h⟩)|fail
 all_goals (cases h<;>(simp only[go_sem,seval,PF, *];exact⟨_,rfl⟩))
def yM (a0:List UInt8):Option (Option (Nat)⊕(Nat⊕Nat)):=
 cond (decide (0<a0.length))
  (cond (decide (65≤((zg a0 0).1:Int)))
   (cond (decide (((zg a0 0).1:Int)≤90))
    (cond (decide (48≤((zg a0 0).1:Int)))
     (cond (decide (((zg a0 0).1:Int)≤57))
      (I (.inl (I (0+(zg a0 0).2))))
      (I (.inl (I (0+(zg a0 0).2)))))
     (I (.inl (I (0+(zg a0 0).2)))))
    (cond (decide (97≤((zg a0 0).1:Int)))
     (cond (decide (48≤((zg a0 0).1:Int)))
      (cond (decide (((zg a0 0).1:Int)≤57))
       (cond (decide (((zg a0 0).1:Int)≤122))
        (I (.inl (I (0+(zg a0 0).2))))
        (I (.inr (.inl (0+(zg a0 0).2)))))
       (cond (decide (((zg a0 0).1:Int)≤122))
        (I (.inl (I (0+(zg a0 0).2))))
        (I (.inr (.inl (0+(zg a0 0).2))))))
      (cond (decide (((zg a0 0).1:Int)≤122))
       (I (.inl (I (0+(zg a0 0).2))))
       (I (.inr (.inl (0+(zg a0 0).2))))))
     (cond (decide (48≤((zg a0 0).1:Int)))
      (cond (decide (((zg a0 0).1:Int)≤57))
       (I (.inr (.inl (0+(zg a0 0).2))))
       (I (.inr (.inl (0+(zg a0 0).2)))))
      (I (.inr (.inl (0+(zg a0 0).2)))))))
   (cond (decide (97≤((zg a0 0).1:Int)))
    (cond (decide (48≤((zg a0 0).1:Int)))
     (cond (decide (((zg a0 0).1:Int)≤57))
      (cond (decide (((zg a0 0).1:Int)≤122))
       (I (.inl (I (0+(zg a0 0).2))))
       (I (.inr (.inl (0+(zg a0 0).2)))))
      (cond (decide (((zg a0 0).1:Int)≤122))
       (I (.inl (I (0+(zg a0 0).2))))
       (I (.inr (.inl (0+(zg a0 0).2))))))
     (cond (decide (((zg a0 0).1:Int)≤122))
      (I (.inl (I (0+(zg a0 0).2))))
      (I (.inr (.inl (0+(zg a0 0).2))))))
    (cond (decide (48≤((zg a0 0).1:Int)))
     (cond (decide (((zg a0 0).1:Int)≤57))
      (I (.inr (.inl (0+(zg a0 0).2))))
      (I (.inr (.inl (0+(zg a0 0).2)))))
     (I (.inr (.inl (0+(zg a0 0).2)))))))
  (I (.inr (.inr 0)))
def yN (a0:List UInt8)(s0:Nat):Option (Option (Nat)⊕(Nat⊕Nat)):=
 cond (decide (s0<a0.length))
  (cond (decide (65≤((zg a0 s0).1:Int)))
   (cond (decide (((zg a0 s0).1:Int)≤90))
    (cond (decide (48≤((zg a0 s0).1:Int)))
     (cond (decide (((zg a0 s0).1:Int)≤57))
      (I (.inl (I (s0+(zg a0 s0).2))))
      (I (.inl (I (s0+(zg a0 s0).2)))))
     (I (.inl (I (s0+(zg a0 s0).2)))))
    (cond (decide (97≤((zg a0 s0).1:Int)))
     (cond (decide (48≤((zg a0 s0).1:Int)))
      (cond (decide (((zg a0 s0).1:Int)≤57))
       (cond (decide (((zg a0 s0).1:Int)≤122))
        (I (.inl (I (s0+(zg a0 s0).2))))
        (cond (decide ((s0:Int)=0))
         (I (.inr (.inl (s0+(zg a0 s0).2))))
         (I (.inl (I (s0+(zg a0 s0).2))))))
       (cond (decide (((zg a0 s0).1:Int)≤122))
        (I (.inl (I (s0+(zg a0 s0).2))))
        (cond (decide ((s0:Int)=0))
         (I (.inr (.inl (s0+(zg a0 s0).2))))
         (cond (decide (((zg a0 s0).1:Int)=95))
          (I (.inl (I (s0+(zg a0 s0).2))))
          (I (.inr (.inl (s0+(zg a0 s0).2))))))))
      (cond (decide (((zg a0 s0).1:Int)≤122))
       (I (.inl (I (s0+(zg a0 s0).2))))
       (cond (decide ((s0:Int)=0))
        (I (.inr (.inl (s0+(zg a0 s0).2))))
        (cond (decide (((zg a0 s0).1:Int)=95))
         (I (.inl (I (s0+(zg a0 s0).2))))
         (I (.inr (.inl (s0+(zg a0 s0).2))))))))
     (cond (decide (48≤((zg a0 s0).1:Int)))
      (cond (decide (((zg a0 s0).1:Int)≤57))
       (cond (decide ((s0:Int)=0))
        (I (.inr (.inl (s0+(zg a0 s0).2))))
        (I (.inl (I (s0+(zg a0 s0).2)))))
       (cond (decide ((s0:Int)=0))
        (I (.inr (.inl (s0+(zg a0 s0).2))))
        (cond (decide (((zg a0 s0).1:Int)=95))
         (I (.inl (I (s0+(zg a0 s0).2))))
         (I (.inr (.inl (s0+(zg a0 s0).2)))))))
      (cond (decide ((s0:Int)=0))
       (I (.inr (.inl (s0+(zg a0 s0).2))))
       (cond (decide (((zg a0 s0).1:Int)=95))
        (I (.inl (I (s0+(zg a0 s0).2))))
        (I (.inr (.inl (s0+(zg a0 s0).2)))))))))
   (cond (decide (97≤((zg a0 s0).1:Int)))
    (cond (decide (48≤((zg a0 s0).1:Int)))
     (cond (decide (((zg a0 s0).1:Int)≤57))
      (cond (decide (((zg a0 s0).1:Int)≤122))
       (I (.inl (I (s0+(zg a0 s0).2))))
       (cond (decide ((s0:Int)=0))
        (I (.inr (.inl (s0+(zg a0 s0).2))))
        (I (.inl (I (s0+(zg a0 s0).2))))))
      (cond (decide (((zg a0 s0).1:Int)≤122))
       (I (.inl (I (s0+(zg a0 s0).2))))
       (cond (decide ((s0:Int)=0))
        (I (.inr (.inl (s0+(zg a0 s0).2))))
        (cond (decide (((zg a0 s0).1:Int)=95))
         (I (.inl (I (s0+(zg a0 s0).2))))
         (I (.inr (.inl (s0+(zg a0 s0).2))))))))
     (cond (decide (((zg a0 s0).1:Int)≤122))
      (I (.inl (I (s0+(zg a0 s0).2))))
      (cond (decide ((s0:Int)=0))
       (I (.inr (.inl (s0+(zg a0 s0).2))))
       (cond (decide (((zg a0 s0).1:Int)=95))
        (I (.inl (I (s0+(zg a0 s0).2))))
        (I (.inr (.inl (s0+(zg a0 s0).2))))))))
    (cond (decide (48≤((zg a0 s0).1:Int)))
     (cond (decide (((zg a0 s0).1:Int)≤57))
      (cond (decide ((s0:Int)=0))
       (I (.inr (.inl (s0+(zg a0 s0).2))))
       (I (.inl (I (s0+(zg a0 s0).2)))))
      (cond (decide ((s0:Int)=0))
       (I (.inr (.inl (s0+(zg a0 s0).2))))
       (cond (decide (((zg a0 s0).1:Int)=95))
        (I (.inl (I (s0+(zg a0 s0).2))))
        (I (.inr (.inl (s0+(zg a0 s0).2)))))))
     (cond (decide ((s0:Int)=0))
      (I (.inr (.inl (s0+(zg a0 s0).2))))
      (cond (decide (((zg a0 s0).1:Int)=95))
       (I (.inl (I (s0+(zg a0 s0).2))))
       (I (.inr (.inl (s0+(zg a0 s0).2)))))))))
  (I (.inr (.inr s0)))
def IG (a0:List UInt8):Option (Nat)→Option (Option (Nat)⊕(Nat⊕Nat))
 |none=>yM a0
 |some x=>yN a0 x
def JY (a0:List UInt8)(s0:Nat):qg:=⟨[(0,.str a0,Eh),(8,.ptr 0 0,Eh),(46,.bool Eh,Eh)],[.iter a0 s0]⟩
def wR (a0:List UInt8):Option (Nat)→qg
 |none=>⟨[(0,.str a0,Eh),(8,.ptr 0 0,Eh)],[.iter a0 0]⟩
 |some x=>JY a0 x
def wS (a0:List UInt8):Nat⊕Nat→qi×qg
 | .inl d=>(.ret,⟨[(2,.bool Eh,Eh)],[.iter a0 d]⟩)
 | .inr d=>(.exit 0,⟨[(0,.str a0,Eh),(8,.ptr 0 0,Eh),(9,.ay [.bool Eh],Eh),(10,.bool Eh,Eh)],[.iter a0 d]⟩)
theorem jrg (a0:List UInt8)(r)(h:yM a0=I r):yr pr wT (wR a0) (wS a0) En r:=by
 unfold yM at h
 repeat' first|(replace h:=jz h;rcases h with⟨g,h⟩|⟨g,h⟩)|fail
 all_goals (cases h<;>(first|(refine zu ?_;simp only[go_sem,seval,wT,wR,JY,xY,wS, *]<;>rfl)|(refine yl ?_;simp only[go_sem,seval,wT,wR,JY,xY,wS, *]<;>rfl)))
theorem jqe (a0:List UInt8)(s0:Nat)(r)(h:yN a0 s0=I r):yr pr wT (wR a0) (wS a0) (I s0) r:=by
 unfold yN at h
 repeat' first|(replace h:=jz h;rcases h with⟨g,h⟩|⟨g,h⟩)|fail
 all_goals (cases h<;>(first|(refine zu ?_;simp only[go_sem,seval,wT,wR,JY,xY,wS, *]<;>rfl)|(refine yl ?_;simp only[go_sem,seval,wT,wR,JY,xY,wS, *]<;>rfl)))
theorem j1v (a0:List UInt8):∀(x:Option (Nat)) (r) (h:IG a0 x=I r),yr pr wT (wR a0) (wS a0) x r
 |none,r,h=>jrg a0 r h
 |some x,r,h=>jqe a0 x r h
theorem j6m (a0:List UInt8){s0 d}(h:aY (IG a0) s0=I d):X pr (.loop wT) (wR a0 s0)=I (wS a0 d):=y8 (j1v a0) (fun d=>by rcases d with d|d<;>(intro hh;cases hh)) h
def f56 (a0:List UInt8):Option Bool:=
 jw (aY (IG a0) En) fun d192=>match d192 with
  | .inl d194=>
   I Eh
  | .inr d195=>
   cond (decide (a0=[]))
    (I Eh)
    (I (decide ((a0.length:Int)≤24)))
theorem W56 {a0 r}(h:f56 a0=I r):jy pr (X pr) 56 [.str a0]=I (.bool r,Eh):=by
 unfold f56 at h
 refine yz JZ ?_
 repeat' first|(replace h:=jx h;obtain⟨d,g,h⟩:=h;with_reducible first|(replace g:=j6m a0 g;rcases d with d|d<;>dsimp only[wR,wS,y7]at g h)|skip)|(replace h:=jz h;rcases h with⟨g,h⟩|⟨g,h⟩)|fail
 all_goals (cases h<;>(simp only[go_sem,seval,JZ, *];exact⟨_,rfl⟩))
end Go.Z
namespace Go.Z
open Go Go.Abs Go.W
def Fh (a0:List UInt8):Option Int:=
 jw (f56 a0) fun v1=>
 jw (f53 (!v1) 8) fun v3=>
 I v3
theorem zhq (hp:za){a0 r}(h:Fh a0=I r):ze pr (X pr) 55 [.str a0] hp=I (Iv r,Eh,hp):=by
 unfold Fh at h
 obtain⟨v1,h2,h⟩:=jx h
 have iR:jy pr (X pr) 56 [.str a0]=I (.bool v1,Eh):=W56 h2
 obtain⟨v3,h4,h⟩:=jx h
 have vG:jy pr (X pr) 53 [.bool (!v1),Iv 8]=I (Iv v3,Eh):=fC h4
 have hr:v3=r:=I.inj h
 subst hr
 rw[zf (show pr.bB 55=I J0 from rfl) (by simp)]
 simp only[go_sem,seval,J0,iR,vG]<;>rfl
def Fi (a0:Int):Option Int:=
 jw (f52 a0 0 999999999) fun v1=>
 I v1
theorem ze2 (hp:za){a0 r}(h:Fi a0=I r):ze pr (X pr) 58 [Iv a0] hp=I (Iv r,Eh,hp):=by
 unfold Fi at h
 obtain⟨v1,h2,h⟩:=jx h
 have iR:jy pr (X pr) 52 [Iv a0,Iv 0,Iv 999999999]=I (Iv v1,Eh):=PE h2
 have hr:v1=r:=I.inj h
 subst hr
 rw[zf (show pr.bB 58=I J1 from rfl) (by simp)]
 simp only[go_sem,seval,J1,iR]<;>rfl
def IH (a0:Option (List (List UInt8)))(s0:(Option (List Int))×Int×Bool):Option (((Option (List Int))×Int×Bool)⊕(((Option (List Int))×Bool×Int))):=
 cond (decide (s0.2.1<((a0.getD []).length:Int)))
  (jw (zn (a0.getD []) s0.2.1) fun iT=>
  jw (Fh iT) fun v20=>
  cond s0.2.2
   (jw (bj s0.1 [v20]) fun jH=>
   I (.inl (jH,j6 .i64 (s0.2.1+1),Ek)))
   (cond s0.1.isNone
    (jw (bj s0.1 [v20]) fun eg=>
    I (.inl (eg,j6 .i64 (s0.2.1+1),Ek)))
    (En)))
  (I (.inr (s0.1,s0.2.2,s0.2.1)))
def J2 (a0:Option (List (List UInt8)))(s0:(Option (List Int))×Int×Bool):qg:=⟨[(1,.fn (.func 55) [] [],Eh),(5,sl 1 kh s0.1,s0.2.2),(8,sl 1 zk a0,Eh),(9,Lv a0,Eh),(10,Iv s0.2.1,Eh)],[]⟩
def J3 (a0:Option (List (List UInt8)))(d:((Option (List Int))×Bool×Int)):qi×qg:=(.exit 0,⟨[(1,.fn (.func 55) [] [],Eh),(5,sl 1 kh d.1,d.2.1),(8,sl 1 zk a0,Eh),(9,Lv a0,Eh),(10,Iv d.2.2,Eh),(11,.bool Eh,Eh)],[]⟩)
theorem j0c (a0:Option (List (List UInt8)))(s0:(Option (List Int))×Int×Bool)(r)(h:IH a0 s0=I r):yr pr J4 (J2 a0) (J3 a0) s0 r:=by
 unfold IH at h
 repeat' first|(replace h:=jx h;obtain⟨d,g,h⟩:=h;with_reducible first|replace g:=zhq [] g|replace g:=q7i g|skip)|(replace h:=jz h;rcases h with⟨g,h⟩|⟨g,h⟩)|fail
 all_goals (cases h<;>(first|(refine zu ?_;simp only[go_sem,seval,J4,J2,zj,J3, *]<;>rfl)|(refine yl ?_;simp only[go_sem,seval,J4,J2,zj,J3, *]<;>rfl)))
theorem j6q (a0:Option (List (List UInt8))){s0 d}(h:aY (IH a0) s0=I d):X pr (.loop J4) (J2 a0 s0)=I (J3 a0 d):=y8 (j0c a0) (fun d hh=>by cases hh) h
def f54 (a0:Option (List (List UInt8))):Option ((Option (List Int))×Bool):=
 jw (aY (IH a0) (En,0,Eh)) fun d28=>
 I (d28.1,d28.2.1)
theorem W54 {a0 r}(h:f54 a0=I r):jy pr (X pr) 54 [sl 1 zk a0,.fn (.func 55) [] []]=I (sl 1 kh r.1,r.2):=by
 unfold f54 at h
 refine eh J5 ?_
 repeat' first|(replace h:=jx h;obtain⟨d,g,h⟩:=h;with_reducible first|(replace g:=j6q a0 g;dsimp only[J2,J3,y7]at g h)|skip)|(replace h:=jz h;rcases h with⟨g,h⟩|⟨g,h⟩)|fail
 all_goals (cases h<;>(simp only[go_sem,seval,J5, *];exact⟨_,rfl⟩))
def II (a0:Option (List Int))(s0:(Option (List Int))×Int×Bool):Option (((Option (List Int))×Int×Bool)⊕(((Option (List Int))×Bool×Int))):=
 cond (decide (s0.2.1<((a0.getD []).length:Int)))
  (jw (zn (a0.getD []) s0.2.1) fun iT=>
  jw (Fi iT) fun v20=>
  cond s0.2.2
   (jw (bj s0.1 [v20]) fun jH=>
   I (.inl (jH,j6 .i64 (s0.2.1+1),Ek)))
   (cond s0.1.isNone
    (jw (bj s0.1 [v20]) fun eg=>
    I (.inl (eg,j6 .i64 (s0.2.1+1),Ek)))
    (En)))
  (I (.inr (s0.1,s0.2.2,s0.2.1)))
def J6 (a0:Option (List Int))(s0:(Option (List Int))×Int×Bool):qg:=⟨[(1,.fn (.func 58) [] [],Eh),(5,sl 1 kh s0.1,s0.2.2),(8,sl 1 kh a0,Eh),(9,Lv a0,Eh),(10,Iv s0.2.1,Eh)],[]⟩
def J7 (a0:Option (List Int))(d:((Option (List Int))×Bool×Int)):qi×qg:=(.exit 0,⟨[(1,.fn (.func 58) [] [],Eh),(5,sl 1 kh d.1,d.2.1),(8,sl 1 kh a0,Eh),(9,Lv a0,Eh),(10,Iv d.2.2,Eh),(11,.bool Eh,Eh)],[]⟩)
theorem jym (a0:Option (List Int))(s0:(Option (List Int))×Int×Bool)(r)(h:II a0 s0=I r):yr pr J8 (J6 a0) (J7 a0) s0 r:=by
 unfold II at h
 repeat' first|(replace h:=jx h;obtain⟨d,g,h⟩:=h;with_reducible first|replace g:=ze2 [] g|replace g:=q7i g|skip)|(replace h:=jz h;rcases h with⟨g,h⟩|⟨g,h⟩)|fail
 all_goals (cases h<;>(first|(refine zu ?_;simp only[go_sem,seval,J8,J6,zj,J7, *]<;>rfl)|(refine yl ?_;simp only[go_sem,seval,J8,J6,zj,J7, *]<;>rfl)))
theorem j26 (a0:Option (List Int)){s0 d}(h:aY (II a0) s0=I d):X pr (.loop J8) (J6 a0 s0)=I (J7 a0 d):=y8 (jym a0) (fun d hh=>by cases hh) h
def f57 (a0:Option (List Int)):Option ((Option (List Int))×Bool):=
 jw (aY (II a0) (En,0,Eh)) fun d28=>
 I (d28.1,d28.2.1)
theorem W57 {a0 r}(h:f57 a0=I r):jy pr (X pr) 57 [sl 1 kh a0,.fn (.func 58) [] []]=I (sl 1 kh r.1,r.2):=by
 unfold f57 at h
 refine eh J9 ?_
 repeat' first|(replace h:=jx h;obtain⟨d,g,h⟩:=h;with_reducible first|(replace g:=j26 a0 g;dsimp only[J6,J7,y7]at g h)|skip)|(replace h:=jz h;rcases h with⟨g,h⟩|⟨g,h⟩)|fail
 all_goals (cases h<;>(simp only[go_sem,seval,J9, *];exact⟨_,rfl⟩))
def f122 (a0:Option (List (List UInt8))):Option ((Option (List (List UInt8)))×Bool):=
 cond a0.isNone
  (I (En,Eh))
  (jw (bj (I []) (a0.getD [])) fun v2=>
  I (v2,Ek))
theorem zcn {a0 r}(h:f122 a0=I r):jy pr (X pr) 122 [sl 1 zk a0]=I (sl 1 zk r.1,r.2):=by
 unfold f122 at h
 refine eh sT ?_
 repeat' first|(replace h:=jx h;obtain⟨d,g,h⟩:=h)|(replace h:=jz h;rcases h with⟨g,h⟩|⟨g,h⟩)|fail
 all_goals (cases h<;>(simp only[go_sem,seval,sT,lN, *];exact⟨_,rfl⟩))
def f123 (a0:Option (List Int)):Option ((Option (List Int))×Bool):=
 cond a0.isNone
  (I (En,Eh))
  (jw (bj (I []) (a0.getD [])) fun v2=>
  I (v2,Ek))
theorem zjw {a0 r}(h:f123 a0=I r):jy pr (X pr) 123 [sl 1 kh a0]=I (sl 1 kh r.1,r.2):=by
 unfold f123 at h
 refine eh sU ?_
 repeat' first|(replace h:=jx h;obtain⟨d,g,h⟩:=h)|(replace h:=jz h;rcases h with⟨g,h⟩|⟨g,h⟩)|fail
 all_goals (cases h<;>(simp only[go_sem,seval,sU,lN, *];exact⟨_,rfl⟩))
def f66 (a0:ql):Option ql:=
 jw (f122 a0.names) fun v1=>
 jw (f123 a0.values) fun v3=>
 cond v1.2
  (cond v3.2
   (I (⟨a0.number,a0.kind,v1.1,v3.1,a0.text⟩))
   (I (⟨a0.number,a0.kind,v1.1,v3.1,a0.text⟩)))
  (cond v3.2
   (I (⟨a0.number,a0.kind,v1.1,v3.1,a0.text⟩))
   (I (⟨a0.number,a0.kind,v1.1,v3.1,a0.text⟩)))
theorem W66 {a0 r}(h:f66 a0=I r):jy pr (X pr) 66 [aE a0]=I (aE r,Eh):=by
 unfold f66 at h
 refine yz Ka ?_
 repeat' first|(replace h:=jx h;obtain⟨d,g,h⟩:=h;with_reducible first|replace g:=zcn g|replace g:=zjw g|skip)|(replace h:=jz h;rcases h with⟨g,h⟩|⟨g,h⟩)|fail
 all_goals (cases h<;>(simp only[go_sem,seval,Ka, *];exact⟨_,rfl⟩))
def PG (a0:Option (List (List UInt8)))(a1:List UInt8)(s0:Int):Option (Int⊕(Int⊕Int)):=
 cond (decide (s0<((a0.getD []).length:Int)))
  (jw (zn (a0.getD []) s0) fun v10=>
  cond (decide (a1=v10))
   (I (.inr (.inl s0)))
   (I (.inl (j6 .i64 (s0+1)))))
  (I (.inr (.inr s0)))
def Kb (a0:Option (List (List UInt8)))(a1:List UInt8)(s0:Int):qg:=⟨[(0,sl 1 zk a0,Eh),(1,.str a1,Eh),(7,Lv a0,Eh),(8,Iv s0,Eh)],[]⟩
def Kc (a0:Option (List (List UInt8)))(a1:List UInt8):Int⊕Int→qi×qg
 | .inl d=>(.ret,⟨[(4,Iv d,Eh)],[]⟩)
 | .inr d=>(.exit 0,⟨[(0,sl 1 zk a0,Eh),(1,.str a1,Eh),(7,Lv a0,Eh),(8,Iv d,Eh),(9,.bool Eh,Eh)],[]⟩)
theorem jsj (a0:Option (List (List UInt8)))(a1:List UInt8)(s0:Int)(r)(h:PG a0 a1 s0=I r):yr pr Ke (Kb a0 a1) (Kc a0 a1) s0 r:=by
 unfold PG at h
 repeat' first|(replace h:=jx h;obtain⟨d,g,h⟩:=h)|(replace h:=jz h;rcases h with⟨g,h⟩|⟨g,h⟩)|fail
 all_goals (cases h<;>(first|(refine zu ?_;simp only[go_sem,seval,Ke,Kb,zj,Kc, *]<;>rfl)|(refine yl ?_;simp only[go_sem,seval,Ke,Kb,zj,Kc, *]<;>rfl)))
theorem jtf (a0:Option (List (List UInt8)))(a1:List UInt8){s0 d}(h:aY (PG a0 a1) s0=I d):X pr (.loop Ke) (Kb a0 a1 s0)=I (Kc a0 a1 d):=y8 (jsj a0 a1) (fun d=>by rcases d with d|d<;>(intro hh;cases hh)) h
def f147 (a0:Option (List (List UInt8)))(a1:List UInt8):Option Int:=
 jw (aY (PG a0 a1) 0) fun d13=>match d13 with
  | .inl d15=>
   I d15
  | .inr d16=>
   I (-1)
theorem zgp {a0 a1 r}(h:f147 a0 a1=I r):jy pr (X pr) 147 [sl 1 zk a0,.str a1]=I (Iv r,Eh):=by
 unfold f147 at h
 refine yz sV ?_
 repeat' first|(replace h:=jx h;obtain⟨d,g,h⟩:=h;with_reducible first|(replace g:=jtf a0 a1 g;rcases d with d|d<;>dsimp only[Kb,Kc,y7]at g h)|skip)|(replace h:=jz h;rcases h with⟨g,h⟩|⟨g,h⟩)|fail
 all_goals (cases h<;>(simp only[go_sem,seval,sV, *];exact⟨_,rfl⟩))
def f87 (a0:Option (List (List UInt8)))(a1:List UInt8):Option Bool:=
 jw (f147 a0 a1) fun v1=>
 I (decide (0≤v1))
theorem W87 {a0 a1 r}(h:f87 a0 a1=I r):jy pr (X pr) 87 [sl 1 zk a0,.str a1]=I (.bool r,Eh):=by
 unfold f87 at h
 refine yz Kf ?_
 repeat' first|(replace h:=jx h;obtain⟨d,g,h⟩:=h;with_reducible first|replace g:=zgp g|skip)|(replace h:=jz h;rcases h with⟨g,h⟩|⟨g,h⟩)|fail
 all_goals (cases h<;>(simp only[go_sem,seval,Kf, *];exact⟨_,rfl⟩))
end Go.Z
end
