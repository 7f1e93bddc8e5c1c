/- Chapter 10. -/
import Derived.Test.YtfopaakmgogpiaaGreatDoorW1
set_option linter.unusedVariables false
set_option linter.unusedSimpArgs false
set_option maxRecDepth 100000
set_option maxHeartbeats 4000000
noncomputable section
open Option renaming some→I
open Bool renaming false→Eh
namespace Go.Z
open Go Go.Abs Go.W
def f59 (a0:Int)(a1:Int)(a2:Int):Option Bool:=
 cond (decide (a0<a1))
  (I true)
  (I (decide (a2<a0)))
theorem Wh {a0:Int}{a1:Int}{a2:Int}{r}(h:f59 a0 a1 a2=I r):jz pr (X pr) 59 [Iv a0,Iv a1,Iv a2]=I (.bool r,Eh):=by
 unfold f59 at h
 refine yt Kk ?_
 repeat' first|(replace h:=j6 h;rcases h with⟨g,h⟩|⟨g,h⟩)|fail
 all_goals (cases h<;>(simp only[go_sem,seval,Kk, *];exact⟨_,rfl⟩))
def HK (a0:Option (List Int))(s0:Int):Option (Int⊕(Int⊕Int)):=
 cond (decide (s0<((a0.getD []).length:Int)))
  (jx (zq (a0.getD []) s0) fun v10=>
  cond (decide (v10=0))
   (I (.inl (j9 .i64 (s0+1))))
   (I (.inr (.inl v10))))
  (I (.inr (.inr s0)))
def Kl (a0:Option (List Int))(s0:Int):qh:=⟨[(0,sl 1 kn a0,Eh),(3,Iv s0,Eh)],[]⟩
def Km (a0:Option (List Int)):Int⊕Int→qo×qh
 | .inl d=>(.ret,⟨[(2,Iv d,Eh)],[]⟩)
 | .inr d=>(.exit 0,⟨[(0,sl 1 kn a0,Eh),(3,Iv d,Eh),(7,.bool Eh,Eh)],[]⟩)
theorem j2s (a0:Option (List Int))(s0:Int)(r)(h:HK a0 s0=I r):y5 pr Kn (Kl a0) (Km a0) s0 r:=by
 unfold HK at h
 repeat' first|(replace h:=jy h;obtain⟨d,g,h⟩:=h)|(replace h:=j6 h;rcases h with⟨g,h⟩|⟨g,h⟩)|fail
 all_goals (cases h<;>(first|(refine z6 ?_;simp only[go_sem,seval,Kn,Kl,zn,Km, *]<;>rfl)|(refine yo ?_;simp only[go_sem,seval,Kn,Kl,zn,Km, *]<;>rfl)))
theorem jwt (a0:Option (List Int)){s0:Int}{d}(h:bj (HK a0) s0=I d):X pr (.loop Kn) (Kl a0 s0)=I (Km a0 d):=kl (j2s a0) (fun d=>by rcases d with d|d<;>(intro hh;cases hh)) h
def f77 (a0:Option (List Int)):Option Int:=
 jx (bj (HK a0) 0) fun d13=>match d13 with
  | .inl d15=>
   I d15
  | .inr d16=>
   I 0
theorem W77 {a0:Option (List Int)}{r}(h:f77 a0=I r):jz pr (X pr) 77 [sl 1 kn a0]=I (Iv r,Eh):=by
 unfold f77 at h
 refine yt OL ?_
 repeat' first|(replace h:=jy h;obtain⟨d,g,h⟩:=h;with_reducible first|(replace g:=jwt a0 g;rcases d with d|d<;>dsimp only[Kl,Km,ki]at g h)|skip)|(replace h:=j6 h;rcases h with⟨g,h⟩|⟨g,h⟩)|fail
 all_goals (cases h<;>(simp only[go_sem,seval,OL, *];exact⟨_,rfl⟩))
def f24 (a0:Option (List Int)):Option Int:=
 jx (f77 a0) fun v1=>
 I v1
theorem W24 {a0:Option (List Int)}{r}(h:f24 a0=I r):jz pr (X pr) 24 [sl 1 kn a0]=I (Iv r,Eh):=by
 unfold f24 at h
 refine yt Ko ?_
 repeat' first|(replace h:=jy h;obtain⟨d,g,h⟩:=h;with_reducible first|replace g:=W77 g|skip)|(replace h:=j6 h;rcases h with⟨g,h⟩|⟨g,h⟩)|fail
 all_goals (cases h<;>(simp only[go_sem,seval,Ko, *];exact⟨_,rfl⟩))
end Go.Z
end
