/- Chapter 10. -/
import Derived.Test.YtimdocpnkimlfaaGreatDoorW1
set_option linter.unusedVariables false
set_option linter.unusedSimpArgs false
set_option maxRecDepth 100000
set_option maxHeartbeats 4000000
noncomputable section
open Option renaming some→I
open Bool renaming false→Ea
namespace Go.Z
open Go Go.Abs Go.W
def f88 (a0:Int)(a1:Int)(a2:Int):Option Bool:=
 cond (decide (a0<a1))
  (I true)
  (I (decide (a2<a0)))
theorem W88 {a0 a1 a2 r}(h:f88 a0 a1 a2=I r):ae pr (X pr) 88 [Iv a0,Iv a1,Iv a2]=I (.bool r,Ea):=by
 unfold f88 at h
 refine ll F6 ?_
 repeat' first|(replace h:=qc h;rcases h with⟨g,h⟩|⟨g,h⟩)
 all_goals (cases h<;>(simp only[go_sem,seval,F6, *];exact⟨_,rfl⟩))
def E1 (a0:Option (List Int))(s0:Int):Option (Int⊕(Int⊕Int)):=
 cond (decide (s0<((a0.getD []).length:Int)))
  (qe (jn (a0.getD []) s0) fun v10=>
  cond (decide (v10=0))
   (I (.inl (qh .i64 (s0+1))))
   (I (.inr (.inl v10))))
  (I (.inr (.inr s0)))
def JT (a0:Option (List Int))(s0:Int):aV:=⟨[(0,sl 1 qx a0,Ea),(3,Iv s0,Ea)],[]⟩
def JU (a0:Option (List Int)):Int⊕Int→je×aV
 | .inl d=>(.ret,⟨[(2,Iv d,Ea)],[]⟩)
 | .inr d=>(.exit 0,⟨[(0,sl 1 qx a0,Ea),(3,Iv d,Ea),(7,.bool Ea,Ea)],[]⟩)
theorem jpp (a0:Option (List Int))(s0:Int)(r)(h:E1 a0 s0=I r):zd pr JV (JT a0) (JU a0) s0 r:=by
 unfold E1 at h
 repeat' first|(replace h:=qa h;obtain⟨d,g,h⟩:=h)|(replace h:=qc h;rcases h with⟨g,h⟩|⟨g,h⟩)
 all_goals (cases h<;>((first|refine qy ?_|refine nk ?_);simp only[go_sem,seval,JV,JT,ri,JU, *]<;>rfl))
theorem jtg (a0:Option (List Int)){s0 d}(h:bq (E1 a0) s0=I d):X pr (.loop JV) (JT a0 s0)=I (JU a0 d):=nT (jpp a0) h
def f87 (a0:Option (List Int)):Option Int:=
 qe (bq (E1 a0) 0) fun d13=>match d13 with
  | .inl d15=>
   I d15
  | .inr d16=>
   I 0
theorem W87 {a0 r}(h:f87 a0=I r):ae pr (X pr) 87 [sl 1 qx a0]=I (Iv r,Ea):=by
 unfold f87 at h
 refine ll JW ?_
 repeat' first|(replace h:=qa h;obtain⟨d,g,h⟩:=h;with_reducible first|(replace g:=jtg a0 g;rcases d with d|d<;>dsimp only[JT,JU,np]at g h)|skip)|(replace h:=qc h;rcases h with⟨g,h⟩|⟨g,h⟩)
 all_goals (cases h<;>(simp only[go_sem,seval,JW, *];exact⟨_,rfl⟩))
def f32 (a0:Option (List Int)):Option Int:=
 qe (f87 a0) fun v1=>
 I v1
theorem W32 {a0 r}(h:f32 a0=I r):ae pr (X pr) 32 [sl 1 qx a0]=I (Iv r,Ea):=by
 unfold f32 at h
 refine ll F7 ?_
 repeat' first|(replace h:=qa h;obtain⟨d,g,h⟩:=h;with_reducible first|replace g:=W87 g|skip)|(replace h:=qc h;rcases h with⟨g,h⟩|⟨g,h⟩)
 all_goals (cases h<;>(simp only[go_sem,seval,F7, *];exact⟨_,rfl⟩))
end Go.Z
end
