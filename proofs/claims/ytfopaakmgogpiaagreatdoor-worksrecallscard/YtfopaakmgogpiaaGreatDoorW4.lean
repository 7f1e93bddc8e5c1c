/- Chapter 10. -/
import Derived.Test.YtfopaakmgogpiaaGreatDoorW1
set_option linter.unusedVariables false
set_option linter.unusedSimpArgs false
set_option maxRecDepth 100000
set_option maxHeartbeats 4000000
noncomputable section
open Option renaming some→I
open Bool renaming false→Eh
namespace Go.Z
open Go Go.Abs Go.W
def f59 (a0:Int)(a1:Int)(a2:Int):Option Bool:=
 cond (decide (a0<a1))
  (I true)
  (I (decide (a2<a0)))
theorem XT {a0 a1 a2 r}(h:f59 a0 a1 a2=I r):jy pr (X pr) 59 [Iv a0,Iv a1,Iv a2]=I (.bool r,Eh):=by
 unfold f59 at h
 refine yz LR ?_
 repeat' first|(replace h:=jz h;rcases h with⟨g,h⟩|⟨g,h⟩)|fail
 all_goals (cases h<;>(simp only[go_sem,seval,LR, *];exact⟨_,rfl⟩))
def IU (a0:Option (List Int))(s0:Int):Option (Int⊕(Int⊕Int)):=
 cond (decide (s0<((a0.getD []).length:Int)))
  (jw (zn (a0.getD []) s0) fun v10=>
  cond (decide (v10=0))
   (I (.inl (j6 .i64 (s0+1))))
   (I (.inr (.inl v10))))
  (I (.inr (.inr s0)))
def LS (a0:Option (List Int))(s0:Int):qg:=⟨[(0,sl 1 kh a0,Eh),(3,Iv s0,Eh)],[]⟩
def LU (a0:Option (List Int)):Int⊕Int→qi×qg
 | .inl d=>(.ret,⟨[(2,Iv d,Eh)],[]⟩)
 | .inr d=>(.exit 0,⟨[(0,sl 1 kh a0,Eh),(3,Iv d,Eh),(7,.bool Eh,Eh)],[]⟩)
theorem j1n (a0:Option (List Int))(s0:Int)(r)(h:IU a0 s0=I r):yr pr LV (LS a0) (LU a0) s0 r:=by
 unfold IU at h
 repeat' first|(replace h:=jx h;obtain⟨d,g,h⟩:=h)|(replace h:=jz h;rcases h with⟨g,h⟩|⟨g,h⟩)|fail
 all_goals (cases h<;>(first|(refine zu ?_;simp only[go_sem,seval,LV,LS,zj,LU, *]<;>rfl)|(refine yl ?_;simp only[go_sem,seval,LV,LS,zj,LU, *]<;>rfl)))
theorem jyb (a0:Option (List Int)){s0 d}(h:aY (IU a0) s0=I d):X pr (.loop LV) (LS a0 s0)=I (LU a0 d):=y8 (j1n a0) (fun d=>by rcases d with d|d<;>(intro hh;cases hh)) h
def f77 (a0:Option (List Int)):Option Int:=
 jw (aY (IU a0) 0) fun d13=>match d13 with
  | .inl d15=>
   I d15
  | .inr d16=>
   I 0
theorem W77 {a0 r}(h:f77 a0=I r):jy pr (X pr) 77 [sl 1 kh a0]=I (Iv r,Eh):=by
 unfold f77 at h
 refine yz Qc ?_
 repeat' first|(replace h:=jx h;obtain⟨d,g,h⟩:=h;with_reducible first|(replace g:=jyb a0 g;rcases d with d|d<;>dsimp only[LS,LU,y7]at g h)|skip)|(replace h:=jz h;rcases h with⟨g,h⟩|⟨g,h⟩)|fail
 all_goals (cases h<;>(simp only[go_sem,seval,Qc, *];exact⟨_,rfl⟩))
def f24 (a0:Option (List Int)):Option Int:=
 jw (f77 a0) fun v1=>
 I v1
theorem W24 {a0 r}(h:f24 a0=I r):jy pr (X pr) 24 [sl 1 kh a0]=I (Iv r,Eh):=by
 unfold f24 at h
 refine yz LW ?_
 repeat' first|(replace h:=jx h;obtain⟨d,g,h⟩:=h;with_reducible first|replace g:=W77 g|skip)|(replace h:=jz h;rcases h with⟨g,h⟩|⟨g,h⟩)|fail
 all_goals (cases h<;>(simp only[go_sem,seval,LW, *];exact⟨_,rfl⟩))
end Go.Z
end
