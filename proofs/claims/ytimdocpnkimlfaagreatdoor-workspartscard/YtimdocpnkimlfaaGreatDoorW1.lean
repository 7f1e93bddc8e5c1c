/- Chapter 10. -/
import Derived.Test.YtimdocpnkimlfaaGreatDoorCA
set_option linter.unusedVariables false
set_option linter.unusedSimpArgs false
set_option maxRecDepth 100000
set_option maxHeartbeats 4000000
noncomputable section
open Option renaming some→I,none→Gn
open Bool renaming false→En,true→Ey
namespace Go.Z
open Go Go.Abs Go.W
def f48 (a0:Bool)(a1:Int):Option Int:=
 cond a0
  (I a1)
  (I 0)
theorem gg {a0 a1 r}(h:f48 a0 a1=I r):qc pr (X pr) 48 [.bool a0,Iv a1]=I (Iv r,En):=by
 unfold f48 at h
 refine zh Ki ?_
 repeat' first|(replace h:=qd h;rcases h with⟨g,h⟩|⟨g,h⟩)
 all_goals (cases h<;>(simp only[go_sem,seval,Ki, *];exact⟨_,rfl⟩))
def Cg (a0:Option (List Int))(s0:Int):Option (Int⊕(Int⊕Int)):=
 cond (decide (s0<((a0.getD []).length:Int)))
  (qa (qr (a0.getD []) s0) fun v10=>
  cond (decide (v10=0))
   (I (.inl (qe .i64 (s0+1))))
   (I (.inr (.inl v10))))
  (I (.inr (.inr s0)))
def O6 (a0:Option (List Int))(s0:Int):bf:=⟨[(5,sl 1 jm a0,En),(6,Lv a0,En),(7,Iv s0,En)],[]⟩
def O7 (a0:Option (List Int)):Int⊕Int→jf×bf
 | .inl d=>(.ret,⟨[(2,Iv d,En)],[]⟩)
 | .inr d=>(.exit 0,⟨[(5,sl 1 jm a0,En),(6,Lv a0,En),(7,Iv d,En),(8,.bool En,En)],[]⟩)
theorem j4p (a0:Option (List Int))(s0:Int)(r)(h:Cg a0 s0=I r):jz pr O8 (O6 a0) (O7 a0) s0 r:=by
 unfold Cg at h
 repeat' first|(replace h:=qb h;obtain⟨d,g,h⟩:=h)|(replace h:=qd h;rcases h with⟨g,h⟩|⟨g,h⟩)
 all_goals (cases h<;>((first|refine qz ?_|refine jp ?_);simp only[go_sem,seval,O8,O6,jg,O7, *]<;>rfl))
theorem j3b (a0:Option (List Int)){s0 d}(h:bm (Cg a0) s0=I d):X pr (.loop O8) (O6 a0 s0)=I (O7 a0 d):=zj (j4p a0) h
def f46 (a0:Option (List Int)):Option Int:=
 qa (bm (Cg a0) 0) fun d13=>match d13 with
  | .inl d15=>
   I d15
  | .inr d16=>
   I 0
theorem mf {a0 r}(h:f46 a0=I r):qc pr (X pr) 46 [sl 1 jm a0]=I (Iv r,En):=by
 unfold f46 at h
 refine zh Kj ?_
 repeat' first|(replace h:=qb h;obtain⟨d,g,h⟩:=h;with_reducible first|(replace g:=j3b a0 g;rcases d with d|d<;>dsimp only[O6,O7,zk]at g h)|skip)|(replace h:=qd h;rcases h with⟨g,h⟩|⟨g,h⟩)
 all_goals (cases h<;>(simp only[go_sem,seval,Kj, *];exact⟨_,rfl⟩))
def f60 (a0:Int)(a1:Int)(a2:Int):Option Int:=
 cond (decide (a0<a1))
  (qa (f48 Ey 3) fun v2=>
  I v2)
  (qa (f48 (decide (a2<a0)) 3) fun v4=>
  I v4)
theorem O9 {a0 a1 a2 r}(h:f60 a0 a1 a2=I r):qc pr (X pr) 60 [Iv a0,Iv a1,Iv a2]=I (Iv r,En):=by
 unfold f60 at h
 refine zh Kk ?_
 repeat' first|(replace h:=qb h;obtain⟨d,g,h⟩:=h;with_reducible first|replace g:=gg g|skip)|(replace h:=qd h;rcases h with⟨g,h⟩|⟨g,h⟩)
 all_goals (cases h<;>(simp only[go_sem,seval,Kk, *];exact⟨_,rfl⟩))
def Ag (a0:List UInt8)(s0:Int):Option (Int⊕(Unit⊕Int)):=
 cond (decide (s0<(a0.length:Int)))
  (qa (qr a0 s0) fun v70=>
  cond (decide (65≤(v70.toNat:Int)))
   (cond (decide ((v70.toNat:Int)≤90))
    (cond (decide (48≤(v70.toNat:Int)))
     (cond (decide ((v70.toNat:Int)≤57))
      (I (.inl (qe .i64 (s0+1))))
      (I (.inl (qe .i64 (s0+1)))))
     (I (.inl (qe .i64 (s0+1)))))
    (cond (decide (97≤(v70.toNat:Int)))
     (cond (decide (48≤(v70.toNat:Int)))
      (cond (decide ((v70.toNat:Int)≤57))
       (cond (decide ((v70.toNat:Int)≤122))
        (I (.inl (qe .i64 (s0+1))))
        (cond (decide (s0=0))
         (I (.inr (.inl ())))
         (I (.inl (qe .i64 (s0+1))))))
       (cond (decide ((v70.toNat:Int)≤122))
        (I (.inl (qe .i64 (s0+1))))
        (cond (decide (s0=0))
         (I (.inr (.inl ())))
         (cond (decide ((v70.toNat:Int)=95))
          (I (.inl (qe .i64 (s0+1))))
          (I (.inr (.inl ())))))))
      (cond (decide ((v70.toNat:Int)≤122))
       (I (.inl (qe .i64 (s0+1))))
       (cond (decide (s0=0))
        (I (.inr (.inl ())))
        (cond (decide ((v70.toNat:Int)=95))
         (I (.inl (qe .i64 (s0+1))))
         (I (.inr (.inl ())))))))
     (cond (decide (48≤(v70.toNat:Int)))
      (cond (decide ((v70.toNat:Int)≤57))
       (cond (decide (s0=0))
        (I (.inr (.inl ())))
        (I (.inl (qe .i64 (s0+1)))))
       (cond (decide (s0=0))
        (I (.inr (.inl ())))
        (cond (decide ((v70.toNat:Int)=95))
         (I (.inl (qe .i64 (s0+1))))
         (I (.inr (.inl ()))))))
      (cond (decide (s0=0))
       (I (.inr (.inl ())))
       (cond (decide ((v70.toNat:Int)=95))
        (I (.inl (qe .i64 (s0+1))))
        (I (.inr (.inl ()))))))))
   (cond (decide (97≤(v70.toNat:Int)))
    (cond (decide (48≤(v70.toNat:Int)))
     (cond (decide ((v70.toNat:Int)≤57))
      (cond (decide ((v70.toNat:Int)≤122))
       (I (.inl (qe .i64 (s0+1))))
       (cond (decide (s0=0))
        (I (.inr (.inl ())))
        (I (.inl (qe .i64 (s0+1))))))
      (cond (decide ((v70.toNat:Int)≤122))
       (I (.inl (qe .i64 (s0+1))))
       (cond (decide (s0=0))
        (I (.inr (.inl ())))
        (cond (decide ((v70.toNat:Int)=95))
         (I (.inl (qe .i64 (s0+1))))
         (I (.inr (.inl ())))))))
     (cond (decide ((v70.toNat:Int)≤122))
      (I (.inl (qe .i64 (s0+1))))
      (cond (decide (s0=0))
       (I (.inr (.inl ())))
       (cond (decide ((v70.toNat:Int)=95))
        (I (.inl (qe .i64 (s0+1))))
        (I (.inr (.inl ())))))))
    (cond (decide (48≤(v70.toNat:Int)))
     (cond (decide ((v70.toNat:Int)≤57))
      (cond (decide (s0=0))
       (I (.inr (.inl ())))
       (I (.inl (qe .i64 (s0+1)))))
      (cond (decide (s0=0))
       (I (.inr (.inl ())))
       (cond (decide ((v70.toNat:Int)=95))
        (I (.inl (qe .i64 (s0+1))))
        (I (.inr (.inl ()))))))
     (cond (decide (s0=0))
      (I (.inr (.inl ())))
      (cond (decide ((v70.toNat:Int)=95))
       (I (.inl (qe .i64 (s0+1))))
       (I (.inr (.inl ()))))))))
  (I (.inr (.inr s0)))
def Pa (a0:List UInt8)(s0:Int):bf:=⟨[(0,.str a0,En),(3,Iv s0,En)],[]⟩
def Pb (a0:List UInt8):Unit⊕Int→jf×bf
 | .inl d=>(.ret,⟨[(2,.bool En,En)],[]⟩)
 | .inr d=>(.exit 0,⟨[(0,.str a0,En),(3,Iv d,En),(17,.bool En,En)],[]⟩)
theorem j3i (a0:List UInt8)(s0:Int)(r)(h:Ag a0 s0=I r):jz pr Pc (Pa a0) (Pb a0) s0 r:=by
 unfold Ag at h
 repeat' first|(replace h:=qb h;obtain⟨d,g,h⟩:=h)|(replace h:=qd h;rcases h with⟨g,h⟩|⟨g,h⟩)
 all_goals (cases h<;>((first|refine qz ?_|refine jp ?_);simp only[go_sem,seval,Pc,Pa,jj5,Pb, *]<;>rfl))
theorem j2j (a0:List UInt8){s0 d}(h:bm (Ag a0) s0=I d):X pr (.loop Pc) (Pa a0 s0)=I (Pb a0 d):=zj (j3i a0) h
def f90 (a0:List UInt8):Option Bool:=
 cond (decide ((a0.length:Int)=0))
  (I En)
  (cond (decide (24<(a0.length:Int)))
   (I En)
   (qa (bm (Ag a0) 0) fun d112=>match d112 with
    | .inl d114=>
     I En
    | .inr d115=>
     I Ey))
theorem W90 {a0 r}(h:f90 a0=I r):qc pr (X pr) 90 [.str a0]=I (.bool r,En):=by
 unfold f90 at h
 refine zh Pd ?_
 repeat' first|(replace h:=qb h;obtain⟨d,g,h⟩:=h;with_reducible first|(replace g:=j2j a0 g;rcases d with d|d<;>dsimp only[Pa,Pb,zk]at g h)|skip)|(replace h:=qd h;rcases h with⟨g,h⟩|⟨g,h⟩)
 all_goals (cases h<;>(simp only[go_sem,seval,Pd, *];exact⟨_,rfl⟩))
def Ah (a0:List UInt8):Option (Option (Nat)⊕(Nat⊕Nat)):=
 cond (decide (0<a0.length))
  (cond (decide (65≤((ql a0 0).1:Int)))
   (cond (decide (((ql a0 0).1:Int)≤90))
    (cond (decide (48≤((ql a0 0).1:Int)))
     (cond (decide (((ql a0 0).1:Int)≤57))
      (I (.inl (I (0+(ql a0 0).2))))
      (I (.inl (I (0+(ql a0 0).2)))))
     (I (.inl (I (0+(ql a0 0).2)))))
    (cond (decide (97≤((ql a0 0).1:Int)))
     (cond (decide (48≤((ql a0 0).1:Int)))
      (cond (decide (((ql a0 0).1:Int)≤57))
       (cond (decide (((ql a0 0).1:Int)≤122))
        (I (.inl (I (0+(ql a0 0).2))))
        (I (.inr (.inl (0+(ql a0 0).2)))))
       (cond (decide (((ql a0 0).1:Int)≤122))
        (I (.inl (I (0+(ql a0 0).2))))
        (I (.inr (.inl (0+(ql a0 0).2))))))
      (cond (decide (((ql a0 0).1:Int)≤122))
       (I (.inl (I (0+(ql a0 0).2))))
       (I (.inr (.inl (0+(ql a0 0).2))))))
     (cond (decide (48≤((ql a0 0).1:Int)))
      (cond (decide (((ql a0 0).1:Int)≤57))
       (I (.inr (.inl (0+(ql a0 0).2))))
       (I (.inr (.inl (0+(ql a0 0).2)))))
      (I (.inr (.inl (0+(ql a0 0).2)))))))
   (cond (decide (97≤((ql a0 0).1:Int)))
    (cond (decide (48≤((ql a0 0).1:Int)))
     (cond (decide (((ql a0 0).1:Int)≤57))
      (cond (decide (((ql a0 0).1:Int)≤122))
       (I (.inl (I (0+(ql a0 0).2))))
       (I (.inr (.inl (0+(ql a0 0).2)))))
      (cond (decide (((ql a0 0).1:Int)≤122))
       (I (.inl (I (0+(ql a0 0).2))))
       (I (.inr (.inl (0+(ql a0 0).2))))))
     (cond (decide (((ql a0 0).1:Int)≤122))
      (I (.inl (I (0+(ql a0 0).2))))
      (I (.inr (.inl (0+(ql a0 0).2))))))
    (cond (decide (48≤((ql a0 0).1:Int)))
     (cond (decide (((ql a0 0).1:Int)≤57))
      (I (.inr (.inl (0+(ql a0 0).2))))
      (I (.inr (.inl (0+(ql a0 0).2)))))
     (I (.inr (.inl (0+(ql a0 0).2)))))))
  (I (.inr (.inr 0)))
def Ai (a0:List UInt8)(s0:Nat):Option (Option (Nat)⊕(Nat⊕Nat)):=
 cond (decide (s0<a0.length))
  (cond (decide (65≤((ql a0 s0).1:Int)))
   (cond (decide (((ql a0 s0).1:Int)≤90))
    (cond (decide (48≤((ql a0 s0).1:Int)))
     (cond (decide (((ql a0 s0).1:Int)≤57))
      (I (.inl (I (s0+(ql a0 s0).2))))
      (I (.inl (I (s0+(ql a0 s0).2)))))
     (I (.inl (I (s0+(ql a0 s0).2)))))
    (cond (decide (97≤((ql a0 s0).1:Int)))
     (cond (decide (48≤((ql a0 s0).1:Int)))
      (cond (decide (((ql a0 s0).1:Int)≤57))
       (cond (decide (((ql a0 s0).1:Int)≤122))
        (I (.inl (I (s0+(ql a0 s0).2))))
        (cond (decide ((s0:Int)=0))
         (I (.inr (.inl (s0+(ql a0 s0).2))))
         (I (.inl (I (s0+(ql a0 s0).2))))))
       (cond (decide (((ql a0 s0).1:Int)≤122))
        (I (.inl (I (s0+(ql a0 s0).2))))
        (cond (decide ((s0:Int)=0))
         (I (.inr (.inl (s0+(ql a0 s0).2))))
         (cond (decide (((ql a0 s0).1:Int)=95))
          (I (.inl (I (s0+(ql a0 s0).2))))
          (I (.inr (.inl (s0+(ql a0 s0).2))))))))
      (cond (decide (((ql a0 s0).1:Int)≤122))
       (I (.inl (I (s0+(ql a0 s0).2))))
       (cond (decide ((s0:Int)=0))
        (I (.inr (.inl (s0+(ql a0 s0).2))))
        (cond (decide (((ql a0 s0).1:Int)=95))
         (I (.inl (I (s0+(ql a0 s0).2))))
         (I (.inr (.inl (s0+(ql a0 s0).2))))))))
     (cond (decide (48≤((ql a0 s0).1:Int)))
      (cond (decide (((ql a0 s0).1:Int)≤57))
       (cond (decide ((s0:Int)=0))
        (I (.inr (.inl (s0+(ql a0 s0).2))))
        (I (.inl (I (s0+(ql a0 s0).2)))))
       (cond (decide ((s0:Int)=0))
        (I (.inr (.inl (s0+(ql a0 s0).2))))
        (cond (decide (((ql a0 s0).1:Int)=95))
         (I (.inl (I (s0+(ql a0 s0).2))))
         (I (.inr (.inl (s0+(ql a0 s0).2)))))))
      (cond (decide ((s0:Int)=0))
       (I (.inr (.inl (s0+(ql a0 s0).2))))
       (cond (decide (((ql a0 s0).1:Int)=95))
        (I (.inl (I (s0+(ql a0 s0).2))))
        (I (.inr (.inl (s0+(ql a0 s0).2)))))))))
   (cond (decide (97≤((ql a0 s0).1:Int)))
    (cond (decide (48≤((ql a0 s0).1:Int)))
     (cond (decide (((ql a0 s0).1:Int)≤57))
      (cond (decide (((ql a0 s0).1:Int)≤122))
       (I (.inl (I (s0+(ql a0 s0).2))))
       (cond (decide ((s0:Int)=0))
        (I (.inr (.inl (s0+(ql a0 s0).2))))
        (I (.inl (I (s0+(ql a0 s0).2))))))
      (cond (decide (((ql a0 s0).1:Int)≤122))
       (I (.inl (I (s0+(ql a0 s0).2))))
       (cond (decide ((s0:Int)=0))
        (I (.inr (.inl (s0+(ql a0 s0).2))))
        (cond (decide (((ql a0 s0).1:Int)=95))
         (I (.inl (I (s0+(ql a0 s0).2))))
         (I (.inr (.inl (s0+(ql a0 s0).2))))))))
     (cond (decide (((ql a0 s0).1:Int)≤122))
      (I (.inl (I (s0+(ql a0 s0).2))))
      (cond (decide ((s0:Int)=0))
       (I (.inr (.inl (s0+(ql a0 s0).2))))
       (cond (decide (((ql a0 s0).1:Int)=95))
        (I (.inl (I (s0+(ql a0 s0).2))))
        (I (.inr (.inl (s0+(ql a0 s0).2))))))))
    (cond (decide (48≤((ql a0 s0).1:Int)))
     (cond (decide (((ql a0 s0).1:Int)≤57))
      (cond (decide ((s0:Int)=0))
       (I (.inr (.inl (s0+(ql a0 s0).2))))
       (I (.inl (I (s0+(ql a0 s0).2)))))
      (cond (decide ((s0:Int)=0))
       (I (.inr (.inl (s0+(ql a0 s0).2))))
       (cond (decide (((ql a0 s0).1:Int)=95))
        (I (.inl (I (s0+(ql a0 s0).2))))
        (I (.inr (.inl (s0+(ql a0 s0).2)))))))
     (cond (decide ((s0:Int)=0))
      (I (.inr (.inl (s0+(ql a0 s0).2))))
      (cond (decide (((ql a0 s0).1:Int)=95))
       (I (.inl (I (s0+(ql a0 s0).2))))
       (I (.inr (.inl (s0+(ql a0 s0).2)))))))))
  (I (.inr (.inr s0)))
def Jv (a0:List UInt8):Option (Nat)→Option (Option (Nat)⊕(Nat⊕Nat))
 |none=>Ah a0
 |some x=>Ai a0 x
def Zh (a0:List UInt8)(s0:Nat):bf:=⟨[(0,.str a0,En),(8,.ptr 0 0,En),(46,.bool En,En)],[.iter a0 s0]⟩
def C5 (a0:List UInt8):Option (Nat)→bf
 |none=>⟨[(0,.str a0,En),(8,.ptr 0 0,En)],[.iter a0 0]⟩
 |some x=>Zh a0 x
def C6 (a0:List UInt8):Nat⊕Nat→jf×bf
 | .inl d=>(.ret,⟨[(2,.bool En,En)],[.iter a0 d]⟩)
 | .inr d=>(.exit 0,⟨[(0,.str a0,En),(8,.ptr 0 0,En),(9,.aB [.bool En],En),(10,.bool En,En)],[.iter a0 d]⟩)
theorem jyc (a0:List UInt8)(r)(h:Ah a0=I r):jz pr C7 (C5 a0) (C6 a0) Gn r:=by
 unfold Ah at h
 repeat' first|(replace h:=qd h;rcases h with⟨g,h⟩|⟨g,h⟩)
 all_goals (cases h<;>((first|refine qz ?_|refine jp ?_);simp only[go_sem,seval,C7,C5,Zh,M7,C6, *]<;>rfl))
theorem jyw (a0:List UInt8)(s0:Nat)(r)(h:Ai a0 s0=I r):jz pr C7 (C5 a0) (C6 a0) (I s0) r:=by
 unfold Ai at h
 repeat' first|(replace h:=qd h;rcases h with⟨g,h⟩|⟨g,h⟩)
 all_goals (cases h<;>((first|refine qz ?_|refine jp ?_);simp only[go_sem,seval,C7,C5,Zh,M7,C6, *]<;>rfl))
theorem j3z (a0:List UInt8):∀(x:Option (Nat)) (r) (h:Jv a0 x=I r),jz pr C7 (C5 a0) (C6 a0) x r
 |none,r,h=>jyc a0 r h
 |some x,r,h=>jyw a0 x r h
theorem j79 (a0:List UInt8){s0 d}(h:bm (Jv a0) s0=I d):X pr (.loop C7) (C5 a0 s0)=I (C6 a0 d):=zj (j3z a0) h
def f81 (a0:List UInt8):Option Bool:=
 qa (bm (Jv a0) Gn) fun d192=>match d192 with
  | .inl d194=>
   I En
  | .inr d195=>
   cond (decide (a0=[]))
    (I En)
    (I (decide ((a0.length:Int)≤24)))
theorem W81 {a0 r}(h:f81 a0=I r):qc pr (X pr) 81 [.str a0]=I (.bool r,En):=by
 unfold f81 at h
 refine zh Kl ?_
 repeat' first|(replace h:=qb h;obtain⟨d,g,h⟩:=h;with_reducible first|(replace g:=j79 a0 g;rcases d with d|d<;>dsimp only[C5,C6,zk]at g h)|skip)|(replace h:=qd h;rcases h with⟨g,h⟩|⟨g,h⟩)
 all_goals (cases h<;>(simp only[go_sem,seval,Kl, *];exact⟨_,rfl⟩))
end Go.Z
namespace Go.Z
open Go Go.Abs Go.W
def FB (a0:List UInt8):Option Int:=
 qa (f81 a0) fun v1=>
 qa (f48 (!v1) 8) fun v3=>
 I v3
theorem j2p (hp:qh){a0 r}(h:FB a0=I r):qm pr (X pr) 110 [.str a0] hp=I (Iv r,En,hp):=by
 unfold FB at h
 obtain⟨v1,h2,h⟩:=qb h
 have sX:qc pr (X pr) 81 [.str a0]=I (.bool v1,En):=W81 h2
 obtain⟨v3,h4,h⟩:=qb h
 have C8:qc pr (X pr) 48 [.bool (!v1),Iv 8]=I (Iv v3,En):=gg h4
 have hr:v3=r:=I.inj h
 subst hr
 rw[qn (show pr.bQ 110=I tA from rfl) (by simp)]
 simp only[go_sem,seval,tA,sX,C8]<;>rfl
def FC (a0:Int):Option Int:=
 qa (f60 a0 0 999999999) fun v1=>
 I v1
theorem j4e (hp:qh){a0 r}(h:FC a0=I r):qm pr (X pr) 112 [Iv a0] hp=I (Iv r,En,hp):=by
 unfold FC at h
 obtain⟨v1,h2,h⟩:=qb h
 have sX:qc pr (X pr) 60 [Iv a0,Iv 0,Iv 999999999]=I (Iv v1,En):=O9 h2
 have hr:v1=r:=I.inj h
 subst hr
 rw[qn (show pr.bQ 112=I tB from rfl) (by simp)]
 simp only[go_sem,seval,tB,sX]<;>rfl
def Jx (a0:Option (List (List UInt8)))(s0:(Option (List Int))×Int×Bool):Option (((Option (List Int))×Int×Bool)⊕(((Option (List Int))×Bool×Int))):=
 cond (decide (s0.2.1<((a0.getD []).length:Int)))
  (qa (qr (a0.getD []) s0.2.1) fun jK=>
  qa (FB jK) fun v20=>
  cond s0.2.2
   (qa (bH s0.1 [v20]) fun v23=>
   I (.inl (v23,qe .i64 (s0.2.1+1),Ey)))
   (cond s0.1.isNone
    (qa (bH s0.1 [v20]) fun v26=>
    I (.inl (v26,qe .i64 (s0.2.1+1),Ey)))
    (Gn)))
  (I (.inr (s0.1,s0.2.2,s0.2.1)))
def Pe (a0:Option (List (List UInt8)))(s0:(Option (List Int))×Int×Bool):bf:=⟨[(1,.fn (.func 110) [] [],En),(5,sl 1 jm s0.1,s0.2.2),(8,sl 1 j9 a0,En),(9,Lv a0,En),(10,Iv s0.2.1,En)],[]⟩
def Pg (a0:Option (List (List UInt8)))(d:((Option (List Int))×Bool×Int)):jf×bf:=(.exit 0,⟨[(1,.fn (.func 110) [] [],En),(5,sl 1 jm d.1,d.2.1),(8,sl 1 j9 a0,En),(9,Lv a0,En),(10,Iv d.2.2,En),(11,.bool En,En)],[]⟩)
theorem jul (a0:Option (List (List UInt8)))(s0:(Option (List Int))×Int×Bool)(r)(h:Jx a0 s0=I r):jz pr Ph (Pe a0) (Pg a0) s0 r:=by
 unfold Jx at h
 repeat' first|(replace h:=qb h;obtain⟨d,g,h⟩:=h;with_reducible first|replace g:=j2p [] g|replace g:=q8p g|skip)|(replace h:=qd h;rcases h with⟨g,h⟩|⟨g,h⟩)
 all_goals (cases h<;>((first|refine qz ?_|refine jp ?_);simp only[go_sem,seval,Ph,Pe,jg,Pg, *]<;>rfl))
theorem jzf (a0:Option (List (List UInt8))){s0 d}(h:bm (Jx a0) s0=I d):X pr (.loop Ph) (Pe a0 s0)=I (Pg a0 d):=zj (jul a0) h
def Jw (a0:Option (List (List UInt8))):Option ((Option (List Int))×Bool):=
 qa (bm (Jx a0) (Gn,0,En)) fun d28=>
 I (d28.1,d28.2.1)
theorem zik {a0 r}(h:Jw a0=I r):qc pr (X pr) 109 [sl 1 j9 a0,.fn (.func 110) [] []]=I (sl 1 jm r.1,r.2):=by
 unfold Jw at h
 refine yv tC ?_
 repeat' first|(replace h:=qb h;obtain⟨d,g,h⟩:=h;with_reducible first|(replace g:=jzf a0 g;dsimp only[Pe,Pg,zk]at g h)|skip)|(replace h:=qd h;rcases h with⟨g,h⟩|⟨g,h⟩)
 all_goals (cases h<;>(simp only[go_sem,seval,tC, *];exact⟨_,rfl⟩))
def Jz (a0:Option (List Int))(s0:(Option (List Int))×Int×Bool):Option (((Option (List Int))×Int×Bool)⊕(((Option (List Int))×Bool×Int))):=
 cond (decide (s0.2.1<((a0.getD []).length:Int)))
  (qa (qr (a0.getD []) s0.2.1) fun jK=>
  qa (FC jK) fun v20=>
  cond s0.2.2
   (qa (bH s0.1 [v20]) fun v23=>
   I (.inl (v23,qe .i64 (s0.2.1+1),Ey)))
   (cond s0.1.isNone
    (qa (bH s0.1 [v20]) fun v26=>
    I (.inl (v26,qe .i64 (s0.2.1+1),Ey)))
    (Gn)))
  (I (.inr (s0.1,s0.2.2,s0.2.1)))
def Pj (a0:Option (List Int))(s0:(Option (List Int))×Int×Bool):bf:=⟨[(1,.fn (.func 112) [] [],En),(5,sl 1 jm s0.1,s0.2.2),(8,sl 1 jm a0,En),(9,Lv a0,En),(10,Iv s0.2.1,En)],[]⟩
def Pl (a0:Option (List Int))(d:((Option (List Int))×Bool×Int)):jf×bf:=(.exit 0,⟨[(1,.fn (.func 112) [] [],En),(5,sl 1 jm d.1,d.2.1),(8,sl 1 jm a0,En),(9,Lv a0,En),(10,Iv d.2.2,En),(11,.bool En,En)],[]⟩)
theorem jv8 (a0:Option (List Int))(s0:(Option (List Int))×Int×Bool)(r)(h:Jz a0 s0=I r):jz pr Pm (Pj a0) (Pl a0) s0 r:=by
 unfold Jz at h
 repeat' first|(replace h:=qb h;obtain⟨d,g,h⟩:=h;with_reducible first|replace g:=j4e [] g|replace g:=q8p g|skip)|(replace h:=qd h;rcases h with⟨g,h⟩|⟨g,h⟩)
 all_goals (cases h<;>((first|refine qz ?_|refine jp ?_);simp only[go_sem,seval,Pm,Pj,jg,Pl, *]<;>rfl))
theorem jwo (a0:Option (List Int)){s0 d}(h:bm (Jz a0) s0=I d):X pr (.loop Pm) (Pj a0 s0)=I (Pl a0 d):=zj (jv8 a0) h
def Jy (a0:Option (List Int)):Option ((Option (List Int))×Bool):=
 qa (bm (Jz a0) (Gn,0,En)) fun d28=>
 I (d28.1,d28.2.1)
theorem zit {a0 r}(h:Jy a0=I r):qc pr (X pr) 111 [sl 1 jm a0,.fn (.func 112) [] []]=I (sl 1 jm r.1,r.2):=by
 unfold Jy at h
 refine yv tD ?_
 repeat' first|(replace h:=qb h;obtain⟨d,g,h⟩:=h;with_reducible first|(replace g:=jwo a0 g;dsimp only[Pj,Pl,zk]at g h)|skip)|(replace h:=qd h;rcases h with⟨g,h⟩|⟨g,h⟩)
 all_goals (cases h<;>(simp only[go_sem,seval,tD, *];exact⟨_,rfl⟩))
def NH (a0:Option (List (List UInt8))):Option ((Option (List (List UInt8)))×Bool):=
 cond a0.isNone
  (I (Gn,En))
  (qa (bH (I []) (a0.getD [])) fun v2=>
  I (v2,Ey))
theorem zfk {a0 r}(h:NH a0=I r):qc pr (X pr) 114 [sl 1 j9 a0]=I (sl 1 j9 r.1,r.2):=by
 unfold NH at h
 refine yv tE ?_
 repeat' first|(replace h:=qb h;obtain⟨d,g,h⟩:=h)|(replace h:=qd h;rcases h with⟨g,h⟩|⟨g,h⟩)
 all_goals (cases h<;>(simp only[go_sem,seval,tE,mP, *];exact⟨_,rfl⟩))
def NI (a0:Option (List Int)):Option ((Option (List Int))×Bool):=
 cond a0.isNone
  (I (Gn,En))
  (qa (bH (I []) (a0.getD [])) fun v2=>
  I (v2,Ey))
theorem zk9 {a0 r}(h:NI a0=I r):qc pr (X pr) 115 [sl 1 jm a0]=I (sl 1 jm r.1,r.2):=by
 unfold NI at h
 refine yv tF ?_
 repeat' first|(replace h:=qb h;obtain⟨d,g,h⟩:=h)|(replace h:=qd h;rcases h with⟨g,h⟩|⟨g,h⟩)
 all_goals (cases h<;>(simp only[go_sem,seval,tF,mP, *];exact⟨_,rfl⟩))
def f50 (a0:GEv):Option GEv:=
 qa (NH a0.names) fun v1=>
 qa (NI a0.values) fun v3=>
 cond v1.2
  (cond v3.2
   (I (⟨a0.number,a0.kind,v1.1,v3.1,a0.text⟩))
   (I (⟨a0.number,a0.kind,v1.1,v3.1,a0.text⟩)))
  (cond v3.2
   (I (⟨a0.number,a0.kind,v1.1,v3.1,a0.text⟩))
   (I (⟨a0.number,a0.kind,v1.1,v3.1,a0.text⟩)))
theorem W50 {a0 r}(h:f50 a0=I r):qc pr (X pr) 50 [aE a0]=I (aE r,En):=by
 unfold f50 at h
 refine zh Km ?_
 repeat' first|(replace h:=qb h;obtain⟨d,g,h⟩:=h;with_reducible first|replace g:=zfk g|replace g:=zk9 g|skip)|(replace h:=qd h;rcases h with⟨g,h⟩|⟨g,h⟩)
 all_goals (cases h<;>(simp only[go_sem,seval,Km, *];exact⟨_,rfl⟩))
def Pn (a0:Option (List (List UInt8)))(a1:List UInt8)(s0:Int):Option (Int⊕(Int⊕Int)):=
 cond (decide (s0<((a0.getD []).length:Int)))
  (qa (qr (a0.getD []) s0) fun v10=>
  cond (decide (a1=v10))
   (I (.inr (.inl s0)))
   (I (.inl (qe .i64 (s0+1)))))
  (I (.inr (.inr s0)))
def Po (a0:Option (List (List UInt8)))(a1:List UInt8)(s0:Int):bf:=⟨[(0,sl 1 j9 a0,En),(1,.str a1,En),(7,Lv a0,En),(8,Iv s0,En)],[]⟩
def Pp (a0:Option (List (List UInt8)))(a1:List UInt8):Int⊕Int→jf×bf
 | .inl d=>(.ret,⟨[(4,Iv d,En)],[]⟩)
 | .inr d=>(.exit 0,⟨[(0,sl 1 j9 a0,En),(1,.str a1,En),(7,Lv a0,En),(8,Iv d,En),(9,.bool En,En)],[]⟩)
theorem jwt (a0:Option (List (List UInt8)))(a1:List UInt8)(s0:Int)(r)(h:Pn a0 a1 s0=I r):jz pr Pq (Po a0 a1) (Pp a0 a1) s0 r:=by
 unfold Pn at h
 repeat' first|(replace h:=qb h;obtain⟨d,g,h⟩:=h)|(replace h:=qd h;rcases h with⟨g,h⟩|⟨g,h⟩)
 all_goals (cases h<;>((first|refine qz ?_|refine jp ?_);simp only[go_sem,seval,Pq,Po,jg,Pp, *]<;>rfl))
theorem jw8 (a0:Option (List (List UInt8)))(a1:List UInt8){s0 d}(h:bm (Pn a0 a1) s0=I d):X pr (.loop Pq) (Po a0 a1 s0)=I (Pp a0 a1 d):=zj (jwt a0 a1) h
def NN (a0:Option (List (List UInt8)))(a1:List UInt8):Option Int:=
 qa (bm (Pn a0 a1) 0) fun d13=>match d13 with
  | .inl d15=>
   I d15
  | .inr d16=>
   I (-1)
theorem zfx {a0 a1 r}(h:NN a0 a1=I r):qc pr (X pr) 123 [sl 1 j9 a0,.str a1]=I (Iv r,En):=by
 unfold NN at h
 refine zh tG ?_
 repeat' first|(replace h:=qb h;obtain⟨d,g,h⟩:=h;with_reducible first|(replace g:=jw8 a0 a1 g;rcases d with d|d<;>dsimp only[Po,Pp,zk]at g h)|skip)|(replace h:=qd h;rcases h with⟨g,h⟩|⟨g,h⟩)
 all_goals (cases h<;>(simp only[go_sem,seval,tG, *];exact⟨_,rfl⟩))
def f69 (a0:Option (List (List UInt8)))(a1:List UInt8):Option Bool:=
 qa (NN a0 a1) fun v1=>
 I (decide (0≤v1))
theorem W69 {a0 a1 r}(h:f69 a0 a1=I r):qc pr (X pr) 69 [sl 1 j9 a0,.str a1]=I (.bool r,En):=by
 unfold f69 at h
 refine zh Kn ?_
 repeat' first|(replace h:=qb h;obtain⟨d,g,h⟩:=h;with_reducible first|replace g:=zfx g|skip)|(replace h:=qd h;rcases h with⟨g,h⟩|⟨g,h⟩)
 all_goals (cases h<;>(simp only[go_sem,seval,Kn, *];exact⟨_,rfl⟩))
end Go.Z
namespace Go.Z
open Go Go.Abs Go.W
def Pr (a0:aj)(a1:List UInt8)(s0:Int):Option (Int⊕(Int⊕Int)):=
 cond (decide (s0<((a0.units.getD []).length:Int)))
  (qa (qr (a0.units.getD []) s0) fun v10=>
  cond (decide (v10.name=a1))
   (I (.inr (.inl s0)))
   (I (.inl (qe .i64 (s0+1)))))
  (I (.inr (.inr s0)))
def Ps (a0:aj)(a1:List UInt8)(s0:Int):bf:=⟨[(1,.str a1,En),(2,.ah (aR a0),En),(5,Iv s0,En)],[]⟩
def Pt (a0:aj)(a1:List UInt8):Int⊕Int→jf×bf
 | .inl d=>(.ret,⟨[(4,Iv d,En)],[]⟩)
 | .inr d=>(.exit 0,⟨[(1,.str a1,En),(2,.ah (aR a0),En),(5,Iv d,En),(10,.bool En,En)],[]⟩)
theorem jty (a0:aj)(a1:List UInt8)(s0:Int)(r)(h:Pr a0 a1 s0=I r):jz pr Pu (Ps a0 a1) (Pt a0 a1) s0 r:=by
 unfold Pr at h
 repeat' first|(replace h:=qb h;obtain⟨d,g,h⟩:=h)|(replace h:=qd h;rcases h with⟨g,h⟩|⟨g,h⟩)
 all_goals (cases h<;>((first|refine qz ?_|refine jp ?_);simp only[go_sem,seval,Pu,Ps,jg,Pt, *]<;>rfl))
theorem ju4 (a0:aj)(a1:List UInt8){s0 d}(h:bm (Pr a0 a1) s0=I d):X pr (.loop Pu) (Ps a0 a1 s0)=I (Pt a0 a1 d):=zj (jty a0 a1) h
def B7 (a0:aj)(a1:List UInt8):Option Int:=
 qa (bm (Pr a0 a1) 0) fun d13=>match d13 with
  | .inl d15=>
   I d15
  | .inr d16=>
   I (-1)
theorem Zg {a0 a1 r}(h:B7 a0 a1=I r):qc pr (X pr) 152 [aR a0,.str a1]=I (Iv r,En):=by
 unfold B7 at h
 refine zh xN ?_
 repeat' first|(replace h:=qb h;obtain⟨d,g,h⟩:=h;with_reducible first|(replace g:=ju4 a0 a1 g;rcases d with d|d<;>dsimp only[Ps,Pt,zk]at g h)|skip)|(replace h:=qd h;rcases h with⟨g,h⟩|⟨g,h⟩)
 all_goals (cases h<;>(simp only[go_sem,seval,xN, *];exact⟨_,rfl⟩))
def Pv (a0:aj)(a1:List UInt8)(s0:Int):Option (Int⊕(Int⊕Int)):=
 cond (decide (s0<((a0.lots.getD []).length:Int)))
  (qa (qr (a0.lots.getD []) s0) fun v10=>
  cond (decide (v10.name=a1))
   (I (.inr (.inl s0)))
   (I (.inl (qe .i64 (s0+1)))))
  (I (.inr (.inr s0)))
def Px (a0:aj)(a1:List UInt8)(s0:Int):bf:=⟨[(1,.str a1,En),(2,.ah (aR a0),En),(5,Iv s0,En)],[]⟩
def Py (a0:aj)(a1:List UInt8):Int⊕Int→jf×bf
 | .inl d=>(.ret,⟨[(4,Iv d,En)],[]⟩)
 | .inr d=>(.exit 0,⟨[(1,.str a1,En),(2,.ah (aR a0),En),(5,Iv d,En),(10,.bool En,En)],[]⟩)
theorem jy1 (a0:aj)(a1:List UInt8)(s0:Int)(r)(h:Pv a0 a1 s0=I r):jz pr Pz (Px a0 a1) (Py a0 a1) s0 r:=by
 unfold Pv at h
 repeat' first|(replace h:=qb h;obtain⟨d,g,h⟩:=h)|(replace h:=qd h;rcases h with⟨g,h⟩|⟨g,h⟩)
 all_goals (cases h<;>((first|refine qz ?_|refine jp ?_);simp only[go_sem,seval,Pz,Px,jg,Py, *]<;>rfl))
theorem jyz (a0:aj)(a1:List UInt8){s0 d}(h:bm (Pv a0 a1) s0=I d):X pr (.loop Pz) (Px a0 a1 s0)=I (Py a0 a1 d):=zj (jy1 a0 a1) h
def wW (a0:aj)(a1:List UInt8):Option Int:=
 qa (bm (Pv a0 a1) 0) fun d13=>match d13 with
  | .inl d15=>
   I d15
  | .inr d16=>
   I (-1)
theorem Kf {a0 a1 r}(h:wW a0 a1=I r):qc pr (X pr) 149 [aR a0,.str a1]=I (Iv r,En):=by
 unfold wW at h
 refine zh xO ?_
 repeat' first|(replace h:=qb h;obtain⟨d,g,h⟩:=h;with_reducible first|(replace g:=jyz a0 a1 g;rcases d with d|d<;>dsimp only[Px,Py,zk]at g h)|skip)|(replace h:=qd h;rcases h with⟨g,h⟩|⟨g,h⟩)
 all_goals (cases h<;>(simp only[go_sem,seval,xO, *];exact⟨_,rfl⟩))
def PA (a0:aj)(a1:List UInt8)(s0:Int):Option (Int⊕(Int⊕Int)):=
 cond (decide (s0<((a0.ae.getD []).length:Int)))
  (qa (qr (a0.ae.getD []) s0) fun v10=>
  cond (decide (v10.name=a1))
   (I (.inr (.inl s0)))
   (I (.inl (qe .i64 (s0+1)))))
  (I (.inr (.inr s0)))
def PB (a0:aj)(a1:List UInt8)(s0:Int):bf:=⟨[(1,.str a1,En),(2,.ah (aR a0),En),(5,Iv s0,En)],[]⟩
def PD (a0:aj)(a1:List UInt8):Int⊕Int→jf×bf
 | .inl d=>(.ret,⟨[(4,Iv d,En)],[]⟩)
 | .inr d=>(.exit 0,⟨[(1,.str a1,En),(2,.ah (aR a0),En),(5,Iv d,En),(10,.bool En,En)],[]⟩)
theorem jwa (a0:aj)(a1:List UInt8)(s0:Int)(r)(h:PA a0 a1 s0=I r):jz pr PE (PB a0 a1) (PD a0 a1) s0 r:=by
 unfold PA at h
 repeat' first|(replace h:=qb h;obtain⟨d,g,h⟩:=h)|(replace h:=qd h;rcases h with⟨g,h⟩|⟨g,h⟩)
 all_goals (cases h<;>((first|refine qz ?_|refine jp ?_);simp only[go_sem,seval,PE,PB,jg,PD, *]<;>rfl))
theorem jy7 (a0:aj)(a1:List UInt8){s0 d}(h:bm (PA a0 a1) s0=I d):X pr (.loop PE) (PB a0 a1 s0)=I (PD a0 a1 d):=zj (jwa a0 a1) h
def wX (a0:aj)(a1:List UInt8):Option Int:=
 qa (bm (PA a0 a1) 0) fun d13=>match d13 with
  | .inl d15=>
   I d15
  | .inr d16=>
   I (-1)
theorem O5 {a0 a1 r}(h:wX a0 a1=I r):qc pr (X pr) 151 [aR a0,.str a1]=I (Iv r,En):=by
 unfold wX at h
 refine zh xP ?_
 repeat' first|(replace h:=qb h;obtain⟨d,g,h⟩:=h;with_reducible first|(replace g:=jy7 a0 a1 g;rcases d with d|d<;>dsimp only[PB,PD,zk]at g h)|skip)|(replace h:=qd h;rcases h with⟨g,h⟩|⟨g,h⟩)
 all_goals (cases h<;>(simp only[go_sem,seval,xP, *];exact⟨_,rfl⟩))
def Cx (a0:Option (List GEv))(s0:Int)(s1:Int):Option (Int⊕(Unit⊕Int)):=
 qa (qr (a0.getD []) s0) fun v79=>
 cond (decide (s1<((v79.names.getD []).length:Int)))
  (qa (qr (v79.names.getD []) s1) fun v82=>
  cond (decide (40<(v82.length:Int)))
   (I (.inr (.inl ())))
   (I (.inl (qe .i64 (s1+1)))))
  (I (.inr (.inr s1)))
def PF (a0:Option (List GEv))(s0:Int)(s1:Int):bf:=⟨[(0,sl 5 vev a0,En),(5,Iv s0,En),(6,Iv s1,En)],[]⟩
def PG (a0:Option (List GEv))(s0:Int):Unit⊕Int→jf×bf
 | .inl d=>(.ret,⟨[(4,.bool En,En)],[]⟩)
 | .inr d=>(.exit 2,⟨[(0,sl 5 vev a0,En),(5,Iv s0,En),(6,Iv d,En),(58,.bool En,En)],[]⟩)
theorem j6a (a0:Option (List GEv))(s0:Int)(s1:Int)(r)(h:Cx a0 s0 s1=I r):jz pr PH (PF a0 s0) (PG a0 s0) s1 r:=by
 unfold Cx at h
 repeat' first|(replace h:=qb h;obtain⟨d,g,h⟩:=h)|(replace h:=qd h;rcases h with⟨g,h⟩|⟨g,h⟩)
 all_goals (cases h<;>((first|refine qz ?_|refine jp ?_);simp only[go_sem,seval,PH,PF,jg,PG, *]<;>rfl))
theorem j15 (a0:Option (List GEv))(s0:Int){s1 d}(h:bm (Cx a0 s0) s1=I d):X pr (.loop PH) (PF a0 s0 s1)=I (PG a0 s0 d):=zj (j6a a0 s0) h
def Cw (a0:Option (List GEv))(s0:Int):Option (Int⊕(Unit⊕Int)):=
 cond (decide (s0<((a0.getD []).length:Int)))
  (qa (qr (a0.getD []) s0) fun xQ=>
  cond (decide (40<(xQ.kind.length:Int)))
   (I (.inr (.inl ())))
   (cond (decide (6<((xQ.names.getD []).length:Int)))
    (I (.inr (.inl ())))
    (cond (decide (8<((xQ.values.getD []).length:Int)))
     (I (.inr (.inl ())))
     (cond (decide (200<(xQ.text.length:Int)))
      (I (.inr (.inl ())))
      (qa (bm (Cx a0 s0) 0) fun d85=>match d85 with
       | .inl d87=>
        I (.inr (.inl ()))
       | .inr d88=>
        I (.inl (qe .i64 (s0+1))))))))
  (I (.inr (.inr s0)))
def PI (a0:Option (List GEv))(s0:Int):bf:=⟨[(0,sl 5 vev a0,En),(5,Iv s0,En)],[]⟩
def PJ (a0:Option (List GEv)):Unit⊕Int→jf×bf
 | .inl d=>(.ret,⟨[(4,.bool En,En)],[]⟩)
 | .inr d=>(.exit 0,⟨[(0,sl 5 vev a0,En),(5,Iv d,En),(14,.bool En,En)],[]⟩)
theorem j9n (a0:Option (List GEv))(s0:Int)(r)(h:Cw a0 s0=I r):jz pr PK (PI a0) (PJ a0) s0 r:=by
 unfold Cw at h
 repeat' first|(replace h:=qb h;obtain⟨d,g,h⟩:=h;with_reducible first|(replace g:=j15 a0 s0 g;rcases d with d|d<;>dsimp only[PF,PG,zk]at g h)|skip)|(replace h:=qd h;rcases h with⟨g,h⟩|⟨g,h⟩)
 all_goals (cases h<;>((first|refine qz ?_|refine jp ?_);simp only[go_sem,seval,PK,PI,jg,PJ, *]<;>rfl))
theorem j7s (a0:Option (List GEv)){s0 d}(h:bm (Cw a0) s0=I d):X pr (.loop PK) (PI a0 s0)=I (PJ a0 d):=zj (j9n a0) h
def f12 (a0:Option (List GEv))(a1:Int):Option Bool:=
 cond (decide (a1<((a0.getD []).length:Int)))
  (I En)
  (qa (bm (Cw a0) 0) fun d89=>match d89 with
   | .inl d91=>
    I En
   | .inr d92=>
    I Ey)
theorem W12 {a0 a1 r}(h:f12 a0 a1=I r):qc pr (X pr) 12 [sl 5 vev a0,Iv a1]=I (.bool r,En):=by
 unfold f12 at h
 refine zh nf ?_
 repeat' first|(replace h:=qb h;obtain⟨d,g,h⟩:=h;with_reducible first|(replace g:=j7s a0 g;rcases d with d|d<;>dsimp only[PI,PJ,zk]at g h)|skip)|(replace h:=qd h;rcases h with⟨g,h⟩|⟨g,h⟩)
 all_goals (cases h<;>(simp only[go_sem,seval,nf, *];exact⟨_,rfl⟩))
def Ce (a0:aj)(a1:ay)(a2:List UInt8)(s0:Int×Int):Option ((Int×Int)⊕((Int×Int))):=
 cond (decide (s0.2<((a1.uses.getD []).length:Int)))
  (qa (qr (a1.uses.getD []) s0.2) fun jK=>
  qa (wW a0 jK.k) fun v20=>
  qa (qr (a0.lots.getD []) v20) fun v22=>
  cond (decide (v22.kind=a2))
   (I (.inl (qe .i64 (s0.1+jK.n),qe .i64 (s0.2+1))))
   (I (.inl (s0.1,qe .i64 (s0.2+1)))))
  (I (.inr (s0.1,s0.2)))
def PL (a0:aj)(a1:ay)(a2:List UInt8)(s0:Int×Int):bf:=⟨[(2,.str a2,En),(3,.ah (aR a0),En),(4,.ah (aU a1),En),(7,Iv s0.1,En),(8,Iv s0.2,En)],[]⟩
def PN (a0:aj)(a1:ay)(a2:List UInt8)(d:(Int×Int)):jf×bf:=(.exit 0,⟨[(2,.str a2,En),(3,.ah (aR a0),En),(4,.ah (aU a1),En),(7,Iv d.1,En),(8,Iv d.2,En),(13,.bool En,En)],[]⟩)
theorem jyt (a0:aj)(a1:ay)(a2:List UInt8)(s0:Int×Int)(r)(h:Ce a0 a1 a2 s0=I r):jz pr PO (PL a0 a1 a2) (PN a0 a1 a2) s0 r:=by
 unfold Ce at h
 repeat' first|(replace h:=qb h;obtain⟨d,g,h⟩:=h;with_reducible first|replace g:=Kf g|skip)|(replace h:=qd h;rcases h with⟨g,h⟩|⟨g,h⟩)
 all_goals (cases h<;>((first|refine qz ?_|refine jp ?_);simp only[go_sem,seval,PO,PL,jg,PN, *]<;>rfl))
theorem jx4 (a0:aj)(a1:ay)(a2:List UInt8){s0 d}(h:bm (Ce a0 a1 a2) s0=I d):X pr (.loop PO) (PL a0 a1 a2 s0)=I (PN a0 a1 a2 d):=zj (jyt a0 a1 a2) h
def IF (a0:aj)(a1:ay)(a2:List UInt8):Option Int:=
 qa (bm (Ce a0 a1 a2) (0,0)) fun d25=>
 I d25.1
theorem zf4 {a0 a1 a2 r}(h:IF a0 a1 a2=I r):qc pr (X pr) 306 [aR a0,aU a1,.str a2]=I (Iv r,En):=by
 unfold IF at h
 refine zh xR ?_
 repeat' first|(replace h:=qb h;obtain⟨d,g,h⟩:=h;with_reducible first|(replace g:=jx4 a0 a1 a2 g;dsimp only[PL,PN,zk]at g h)|skip)|(replace h:=qd h;rcases h with⟨g,h⟩|⟨g,h⟩)
 all_goals (cases h<;>(simp only[go_sem,seval,xR, *];exact⟨_,rfl⟩))
def pZ (a0:aj)(a1:ay):Option bL:=
 qa (wX a0 a1.product) fun v1=>
 qa (qr (a0.ae.getD []) v1) fun v3=>
 qa (qr (v3.aM.getD []) (qe .i64 (a1.version-1))) fun v5=>
 I v5
theorem PP {a0 a1 r}(h:pZ a0 a1=I r):qc pr (X pr) 204 [aR a0,aU a1]=I (aD r,En):=by
 unfold pZ at h
 refine zh tH ?_
 repeat' first|(replace h:=qb h;obtain⟨d,g,h⟩:=h;with_reducible first|replace g:=O5 g|skip)|(replace h:=qd h;rcases h with⟨g,h⟩|⟨g,h⟩)
 all_goals (cases h<;>(simp only[go_sem,seval,tH,jg, *];exact⟨_,rfl⟩))
def B9 (a0:ay)(a1:je)(s0:Bool×Int):Option ((Bool×Int)⊕((Bool×Int))):=
 cond (decide (s0.2<((a0.results.getD []).length:Int)))
  (qa (qr (a0.results.getD []) s0.2) fun fq=>
  cond (decide (fq.k=a1.k))
   (cond (decide (fq.a=a0.version))
    (cond (decide (a1.a≤fq.b))
     (I (.inl (decide (fq.b≤a1.b),qe .i64 (s0.2+1))))
     (I (.inl (En,qe .i64 (s0.2+1)))))
    (I (.inl (s0.1,qe .i64 (s0.2+1)))))
   (I (.inl (s0.1,qe .i64 (s0.2+1)))))
  (I (.inr (s0.1,s0.2)))
def PQ (a0:ay)(a1:je)(s0:Bool×Int):bf:=⟨[(2,.ah (aU a0),En),(3,.ah (aT a1),En),(5,.bool s0.1,En),(6,Iv s0.2,En)],[]⟩
def PR (a0:ay)(a1:je)(d:(Bool×Int)):jf×bf:=(.exit 0,⟨[(2,.ah (aU a0),En),(3,.ah (aT a1),En),(5,.bool d.1,En),(6,Iv d.2,En),(12,.bool En,En)],[]⟩)
theorem jua (a0:ay)(a1:je)(s0:Bool×Int)(r)(h:B9 a0 a1 s0=I r):jz pr PS (PQ a0 a1) (PR a0 a1) s0 r:=by
 unfold B9 at h
 repeat' first|(replace h:=qb h;obtain⟨d,g,h⟩:=h)|(replace h:=qd h;rcases h with⟨g,h⟩|⟨g,h⟩)
 all_goals (cases h<;>((first|refine qz ?_|refine jp ?_);simp only[go_sem,seval,PS,PQ,jg,PR, *]<;>rfl))
theorem jyg (a0:ay)(a1:je){s0 d}(h:bm (B9 a0 a1) s0=I d):X pr (.loop PS) (PQ a0 a1 s0)=I (PR a0 a1 d):=zj (jua a0 a1) h
def Iw (a0:ay)(a1:je):Option Bool:=
 qa (bm (B9 a0 a1) (En,0)) fun d19=>
 I d19.1
theorem zg7 {a0 a1 r}(h:Iw a0 a1=I r):qc pr (X pr) 205 [aU a0,aT a1]=I (.bool r,En):=by
 unfold Iw at h
 refine zh xS ?_
 repeat' first|(replace h:=qb h;obtain⟨d,g,h⟩:=h;with_reducible first|(replace g:=jyg a0 a1 g;dsimp only[PQ,PR,zk]at g h)|skip)|(replace h:=qd h;rcases h with⟨g,h⟩|⟨g,h⟩)
 all_goals (cases h<;>(simp only[go_sem,seval,xS, *];exact⟨_,rfl⟩))
def Fe (a0:aj)(a1:ay):Option Int:=
 qa (wX a0 a1.product) fun v1=>
 qa (qr (a0.ae.getD []) v1) fun v3=>
 I ((v3.aM.getD []).length:Int)
theorem jwy {a0 a1 r}(h:Fe a0 a1=I r):qc pr (X pr) 265 [aR a0,aU a1]=I (Iv r,En):=by
 unfold Fe at h
 refine zh tI ?_
 repeat' first|(replace h:=qb h;obtain⟨d,g,h⟩:=h;with_reducible first|replace g:=O5 g|skip)|(replace h:=qd h;rcases h with⟨g,h⟩|⟨g,h⟩)
 all_goals (cases h<;>(simp only[go_sem,seval,tI,jg, *];exact⟨_,rfl⟩))
def Cf (a0:aj)(a1:ay)(v1:bL)(s0:Int):Option (Int⊕(Unit⊕Int)):=
 cond (decide (s0<((v1.aK.getD []).length:Int)))
  (qa (qr (v1.aK.getD []) s0) fun eh=>
  qa (IF a0 a1 eh.k) fun jK=>
  cond (decide (jK<eh.n))
   (I (.inr (.inl ())))
   (I (.inl (qe .i64 (s0+1)))))
  (I (.inr (.inr s0)))
def PT (a0:aj)(a1:ay)(v1:bL)(s0:Int):bf:=⟨[(2,.ah (aR a0),En),(3,.ah (aU a1),En),(5,.ah (aD v1),En),(6,Iv s0,En)],[]⟩
def PU (a0:aj)(a1:ay)(v1:bL):Unit⊕Int→jf×bf
 | .inl d=>(.ret,⟨[(4,.bool En,En)],[]⟩)
 | .inr d=>(.exit 0,⟨[(2,.ah (aR a0),En),(3,.ah (aU a1),En),(5,.ah (aD v1),En),(6,Iv d,En),(14,.bool En,En)],[]⟩)
theorem jv9 (a0:aj)(a1:ay)(v1:bL)(s0:Int)(r)(h:Cf a0 a1 v1 s0=I r):jz pr PV (PT a0 a1 v1) (PU a0 a1 v1) s0 r:=by
 unfold Cf at h
 repeat' first|(replace h:=qb h;obtain⟨d,g,h⟩:=h;with_reducible first|replace g:=zf4 g|skip)|(replace h:=qd h;rcases h with⟨g,h⟩|⟨g,h⟩)
 all_goals (cases h<;>((first|refine qz ?_|refine jp ?_);simp only[go_sem,seval,PV,PT,jg,PU, *]<;>rfl))
theorem jtz (a0:aj)(a1:ay)(v1:bL){s0 d}(h:bm (Cf a0 a1 v1) s0=I d):X pr (.loop PV) (PT a0 a1 v1 s0)=I (PU a0 a1 v1 d):=zj (jv9 a0 a1 v1) h
def IK (a0:aj)(a1:ay):Option Bool:=
 qa (pZ a0 a1) fun v1=>
 qa (bm (Cf a0 a1 v1) 0) fun d21=>match d21 with
  | .inl d23=>
   I En
  | .inr d24=>
   I Ey
theorem zif {a0 a1 r}(h:IK a0 a1=I r):qc pr (X pr) 299 [aR a0,aU a1]=I (.bool r,En):=by
 unfold IK at h
 refine zh xT ?_
 repeat' first|(replace h:=qb h;obtain⟨d,g,h⟩:=h;with_reducible first|replace g:=PP g|(replace g:=jtz a0 a1 _ g;rcases d with d|d<;>dsimp only[PT,PU,zk]at g h)|skip)|(replace h:=qd h;rcases h with⟨g,h⟩|⟨g,h⟩)
 all_goals (cases h<;>(simp only[go_sem,seval,xT, *];exact⟨_,rfl⟩))
def Cd (a1:ay)(v1:bL)(s0:(Option (List (List UInt8)))×Int×Bool):Option (((Option (List (List UInt8)))×Int×Bool)⊕(((Option (List (List UInt8)))×Bool×Int))):=
 cond (decide (s0.2.1<((v1.az.getD []).length:Int)))
  (qa (qr (v1.az.getD []) s0.2.1) fun v22=>
  qa (Iw a1 v22) fun v24=>
  cond v24
   (I (.inl (s0.1,qe .i64 (s0.2.1+1),s0.2.2)))
   (cond s0.2.2
    (qa (bH s0.1 [v22.k]) fun v28=>
    I (.inl (v28,qe .i64 (s0.2.1+1),Ey)))
    (cond s0.1.isNone
     (qa (bH s0.1 [v22.k]) fun v31=>
     I (.inl (v31,qe .i64 (s0.2.1+1),Ey)))
     (Gn))))
  (I (.inr (s0.1,s0.2.2,s0.2.1)))
def PW (a1:ay)(v1:bL)(s0:(Option (List (List UInt8)))×Int×Bool):bf:=⟨[(3,.ah (aU a1),En),(5,.ah (aD v1),En),(6,sl 1 j9 s0.1,s0.2.2),(7,Iv s0.2.1,En)],[]⟩
def PX (a1:ay)(v1:bL)(d:((Option (List (List UInt8)))×Bool×Int)):jf×bf:=(.exit 0,⟨[(3,.ah (aU a1),En),(5,.ah (aD v1),En),(6,sl 1 j9 d.1,d.2.1),(7,Iv d.2.2,En),(15,.bool En,En)],[]⟩)
theorem jwg (a1:ay)(v1:bL)(s0:(Option (List (List UInt8)))×Int×Bool)(r)(h:Cd a1 v1 s0=I r):jz pr PY (PW a1 v1) (PX a1 v1) s0 r:=by
 unfold Cd at h
 repeat' first|(replace h:=qb h;obtain⟨d,g,h⟩:=h;with_reducible first|replace g:=zg7 g|replace g:=M8 g|skip)|(replace h:=qd h;rcases h with⟨g,h⟩|⟨g,h⟩)
 all_goals (cases h<;>((first|refine qz ?_|refine jp ?_);simp only[go_sem,seval,PY,PW,jg,PX, *]<;>rfl))
theorem jtx (a1:ay)(v1:bL){s0 d}(h:bm (Cd a1 v1) s0=I d):X pr (.loop PY) (PW a1 v1 s0)=I (PX a1 v1 d):=zj (jwg a1 v1) h
def Fh (a0:aj)(a1:ay):Option ((Option (List (List UInt8)))×Bool):=
 qa (pZ a0 a1) fun v1=>
 qa (bm (Cd a1 v1) (Gn,0,En)) fun d33=>
 I (d33.1,d33.2.1)
theorem zix {a0 a1 r}(h:Fh a0 a1=I r):qc pr (X pr) 154 [aR a0,aU a1]=I (sl 1 j9 r.1,r.2):=by
 unfold Fh at h
 refine yv xU ?_
 repeat' first|(replace h:=qb h;obtain⟨d,g,h⟩:=h;with_reducible first|replace g:=PP g|(replace g:=jtx a1 _ g;dsimp only[PW,PX,zk]at g h)|skip)|(replace h:=qd h;rcases h with⟨g,h⟩|⟨g,h⟩)
 all_goals (cases h<;>(simp only[go_sem,seval,xU, *];exact⟨_,rfl⟩))
def zT (a0:aj)(a1:ay)(s0:Int):Option (Int⊕(Unit⊕Int)):=
 cond (decide (s0<((a1.uses.getD []).length:Int)))
  (qa (qr (a1.uses.getD []) s0) fun v28=>
  qa (wW a0 v28.k) fun v30=>
  qa (qr (a0.lots.getD []) v30) fun lG=>
  cond lG.held
   (I (.inr (.inl ())))
   (I (.inl (qe .i64 (s0+1)))))
  (I (.inr (.inr s0)))
def PZ (a0:aj)(a1:ay)(s0:Int):bf:=⟨[(2,.ah (aR a0),En),(3,.ah (.agg [.str a1.name,.str a1.product,Iv a1.version,sl 2 bn a1.uses,sl 3 ja a1.results,.str a1.partner,.bool En,Iv a1.ai]),En),(5,Iv s0,En)],[]⟩
def P0 (a0:aj)(a1:ay):Unit⊕Int→jf×bf
 | .inl d=>(.ret,⟨[(4,Iv 34,En)],[]⟩)
 | .inr d=>(.exit 0,⟨[(2,.ah (aR a0),En),(3,.ah (.agg [.str a1.name,.str a1.product,Iv a1.version,sl 2 bn a1.uses,sl 3 ja a1.results,.str a1.partner,.bool En,Iv a1.ai]),En),(5,Iv d,En),(27,.bool En,En)],[]⟩)
theorem jtw (a0:aj)(a1:ay)(s0:Int)(r)(h:zT a0 a1 s0=I r):jz pr P1 (PZ a0 a1) (P0 a0 a1) s0 r:=by
 unfold zT at h
 repeat' first|(replace h:=qb h;obtain⟨d,g,h⟩:=h;with_reducible first|replace g:=Kf g|skip)|(replace h:=qd h;rcases h with⟨g,h⟩|⟨g,h⟩)
 all_goals (cases h<;>((first|refine qz ?_|refine jp ?_);simp only[go_sem,seval,P1,PZ,jg,P0, *]<;>rfl))
theorem jxt (a0:aj)(a1:ay){s0 d}(h:bm (zT a0 a1) s0=I d):X pr (.loop P1) (PZ a0 a1 s0)=I (P0 a0 a1 d):=zj (jtw a0 a1) h
def f266 (a0:aj)(a1:ay):Option Int:=
 cond a1.shipped
  (I 21)
  (qa (Fe a0 (⟨a1.name,a1.product,a1.version,a1.uses,a1.results,a1.partner,En,a1.ai⟩)) fun v2=>
  cond (decide (a1.version=v2))
   (qa (IK a0 (⟨a1.name,a1.product,a1.version,a1.uses,a1.results,a1.partner,En,a1.ai⟩)) fun v5=>
   cond v5
    (qa (Fh a0 (⟨a1.name,a1.product,a1.version,a1.uses,a1.results,a1.partner,En,a1.ai⟩)) fun v8=>
    cond (decide (0<((v8.1.getD []).length:Int)))
     (I 31)
     (qa (bm (zT a0 a1) 0) fun d35=>match d35 with
      | .inl d37=>
       I 34
      | .inr d38=>
       I 0))
    (I 20))
   (I 32))
theorem zd7 {a0 a1 r}(h:f266 a0 a1=I r):qc pr (X pr) 266 [.agg [.int .i64 a0.day,sl 5 jc a0.lots,sl 4 qv a0.ae,sl 8 aY a0.units],.agg [.str a1.name,.str a1.product,.int .i64 a1.version,sl 2 bn a1.uses,sl 3 ja a1.results,.str a1.partner,.bool a1.shipped,.int .i64 a1.ai]]=I (.int .i64 r,En):=by
 unfold f266 at h
 refine zh xV ?_
 repeat' first|(replace h:=qb h;obtain⟨d,g,h⟩:=h;with_reducible first|replace g:=jwy g|replace g:=zif g|replace g:=zix g|(replace g:=jxt a0 a1 g;rcases d with d|d<;>dsimp only[PZ,P0,zk]at g h)|skip)|(replace h:=qd h;rcases h with⟨g,h⟩|⟨g,h⟩)
 all_goals (cases h<;>(simp only[go_sem,seval,xV, *];exact⟨_,rfl⟩))
end Go.Z
end
