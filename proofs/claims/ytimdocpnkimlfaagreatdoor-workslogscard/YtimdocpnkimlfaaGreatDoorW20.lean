/- Chapter 10. -/
import Derived.Test.YtimdocpnkimlfaaGreatDoorW8
set_option linter.unusedVariables false
set_option linter.unusedSimpArgs false
set_option maxRecDepth 100000
set_option maxHeartbeats 4000000
open Bool renaming false→I
namespace Go.Z
open Go Go.Abs Go.W
noncomputable def wi (a0:Option (List (List UInt8)))(a1:Option (List (List UInt8)))(s0:Int):Option (Int⊕(Unit⊕Int)):=
 cond (decide (s0<((a0.getD []).length:Int)))
  (qe (jn (a0.getD []) s0) fun eF=>
  qe (jn (a1.getD []) s0) fun iT=>
  cond (decide (eF=iT))
   (some (.inl (qh .i64 (s0+1))))
   (some (.inr (.inl ()))))
  (some (.inr (.inr s0)))
def JP (a0:Option (List (List UInt8)))(a1:Option (List (List UInt8)))(s0:Int):aV:=⟨[(0,sl 1 qv a0,I),(1,sl 1 qv a1,I),(5,Iv s0,I)],[]⟩
def JQ (a0:Option (List (List UInt8)))(a1:Option (List (List UInt8))):Unit⊕Int→je×aV
 | .inl d=>(.ret,⟨[(4,.bool I,I)],[]⟩)
 | .inr d=>(.exit 0,⟨[(0,sl 1 qv a0,I),(1,sl 1 qv a1,I),(5,Iv d,I),(14,.bool I,I)],[]⟩)
theorem jtc (a0:Option (List (List UInt8)))(a1:Option (List (List UInt8)))(s0:Int)(r)(h:wi a0 a1 s0=some r):zd pr JR (JP a0 a1) (JQ a0 a1) s0 r:=by
 unfold wi at h
 repeat' first|(replace h:=qa h;obtain⟨d,g,h⟩:=h)|(replace h:=qc h;rcases h with⟨g,h⟩|⟨g,h⟩)
 all_goals (cases h<;>((first|refine qy ?_|refine nk ?_);simp only[go_sem,seval,JR,JP,ri,JQ, *]<;>rfl))
theorem jp9 (a0:Option (List (List UInt8)))(a1:Option (List (List UInt8))){s0 d}(h:bq (wi a0 a1) s0=some d):X pr (.loop JR) (JP a0 a1 s0)=some (JQ a0 a1 d):=nT (jtc a0 a1) h
noncomputable def f53 (a0:Option (List (List UInt8)))(a1:Option (List (List UInt8))):Option Bool:=
 cond (decide (((a0.getD []).length:Int)=((a1.getD []).length:Int)))
  (qe (bq (wi a0 a1) 0) fun d20=>match d20 with
   | .inl d22=>
    some I
   | .inr d23=>
    some true)
  (some I)
theorem W53 {a0 a1 r}(h:f53 a0 a1=some r):ae pr (X pr) 53 [sl 1 qv a0,sl 1 qv a1]=some (.bool r,I):=by
 unfold f53 at h
 refine ll JS ?_
 repeat' first|(replace h:=qa h;obtain⟨d,g,h⟩:=h;with_reducible first|(replace g:=jp9 a0 a1 g;rcases d with d|d<;>dsimp only[JP,JQ,np]at g h)|skip)|(replace h:=qc h;rcases h with⟨g,h⟩|⟨g,h⟩)
 all_goals (cases h<;>(simp only[go_sem,seval,JS, *];exact⟨_,rfl⟩))
end Go.Z
