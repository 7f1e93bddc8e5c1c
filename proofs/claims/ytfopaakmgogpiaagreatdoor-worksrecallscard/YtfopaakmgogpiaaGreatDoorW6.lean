/- Chapter 10. -/
import Derived.Test.YtfopaakmgogpiaaGreatDoorW1
set_option linter.unusedVariables false
set_option linter.unusedSimpArgs false
set_option maxRecDepth 100000
set_option maxHeartbeats 4000000
noncomputable section
open Option renaming some→I,none→En
open Bool renaming false→Eh,true→Ek
namespace Go.Z
open Go Go.Abs Go.W
def f131 (a0:Int)(a1:qc)(a2:List UInt8):Option Bool:=
 jw (zn (a1.ar.getD []) a0) fun v1=>
 I (decide (v1.name=a2))
theorem zjj (hp:za){a0 a1 a2 r}(h:f131 a0 a1 a2=I r):ze pr (X pr) 131 [Iv a0,.ah (aR a1),.ah (.str a2)] hp=I (.bool r,Eh,hp):=by
 unfold f131 at h
 obtain⟨v1,h2,h⟩:=jx h
 have hr:decide (v1.name=a2)=r:=I.inj h
 subst hr
 rw[zf (show pr.bB 131=I tK from rfl) (by simp)]
 simp only[go_sem,seval,tK,yx h2]<;>rfl
def H4 (a0:Int)(ai:qc)(bf:List UInt8)(s0:Int):Option (Int⊕(Int⊕Int)):=
 cond (decide (s0<a0))
  (jw (f131 s0 ai bf) fun v10=>
  cond v10
   (I (.inr (.inl s0)))
   (I (.inl (j6 .i64 (s0+1)))))
  (I (.inr (.inr s0)))
def LX (a0:Int)(ai:qc)(bf:List UInt8)(s0:Int):qg:=⟨[(1,.fn (.func 131) [] [.ah (aR ai),.ah (.str bf)],Eh),(5,Iv (-1),Eh),(7,Iv a0,Eh),(8,Iv s0,Eh)],[]⟩
def LY (a0:Int)(ai:qc)(bf:List UInt8):Int⊕Int→qi×qg
 | .inl d=>(.exit 0,⟨[(5,Iv d,Eh)],[]⟩)
 | .inr d=>(.exit 0,⟨[(1,.fn (.func 131) [] [.ah (aR ai),.ah (.str bf)],Eh),(5,Iv (-1),Eh),(7,Iv a0,Eh),(8,Iv d,Eh),(9,.bool Eh,Eh)],[]⟩)
theorem joj (a0:Int)(ai:qc)(bf:List UInt8)(s0:Int)(r)(h:H4 a0 ai bf s0=I r):yr pr pf (LX a0 ai bf) (LY a0 ai bf) s0 r:=by
 unfold H4 at h
 repeat' first|(replace h:=jx h;obtain⟨d,g,h⟩:=h;with_reducible first|replace g:=zjj [] g|skip)|(replace h:=jz h;rcases h with⟨g,h⟩|⟨g,h⟩)|fail
 all_goals (cases h<;>(first|(refine zu ?_;simp only[go_sem,seval,pf,LX,LY, *]<;>rfl)|(refine yl ?_;simp only[go_sem,seval,pf,LX,LY, *]<;>rfl)))
theorem jmp (a0:Int)(ai:qc)(bf:List UInt8){s0 d}(h:aY (H4 a0 ai bf) s0=I d):X pr (.loop pf) (LX a0 ai bf s0)=I (LY a0 ai bf d):=y8 (joj a0 ai bf) (fun d=>by rcases d with d|d<;>(intro hh;cases hh)) h
def H3 (a0:Int)(ai:qc)(bf:List UInt8):Option Int:=
 jw (aY (H4 a0 ai bf) 0) fun d13=>match d13 with
  | .inl d15=>
   I d15
  | .inr d16=>
   I (-1)
theorem j1z {a0 ai bf r}(h:H3 a0 ai bf=I r):jy pr (X pr) 130 [Iv a0,.fn (.func 131) [] [.ah (aR ai),.ah (.str bf)]]=I (Iv r,Eh):=by
 unfold H3 at h
 refine yz kY ?_
 repeat' first|(replace h:=jx h;obtain⟨d,g,h⟩:=h;with_reducible first|(replace g:=jmp a0 ai bf g;rcases d with d|d<;>dsimp only[LX,LY,y7]at g h)|skip)|(replace h:=jz h;rcases h with⟨g,h⟩|⟨g,h⟩)|fail
 all_goals (cases h<;>(simp only[go_sem,seval,kY, *];exact⟨_,rfl⟩))
def f72 (a0:qc)(a1:List UInt8):Option Int:=
 jw (H3 ((a0.ar.getD []).length:Int) a0 a1) fun v1=>
 I v1
theorem BU {a0 a1 r}(h:f72 a0 a1=I r):jy pr (X pr) 72 [aR a0,.str a1]=I (Iv r,Eh):=by
 unfold f72 at h
 refine yz LZ ?_
 repeat' first|(replace h:=jx h;obtain⟨d,g,h⟩:=h;with_reducible first|replace g:=j1z g|skip)|(replace h:=jz h;rcases h with⟨g,h⟩|⟨g,h⟩)|fail
 all_goals (cases h<;>(simp only[go_sem,seval,LZ, *];exact⟨_,rfl⟩))
def f233 (a0:Int)(a1:qc)(a2:List UInt8):Option Bool:=
 jw (zn (a1.ae.getD []) a0) fun v1=>
 I (decide (v1.name=a2))
theorem zis (hp:za){a0 a1 a2 r}(h:f233 a0 a1 a2=I r):ze pr (X pr) 233 [Iv a0,.ah (aR a1),.ah (.str a2)] hp=I (.bool r,Eh,hp):=by
 unfold f233 at h
 obtain⟨v1,h2,h⟩:=jx h
 have hr:decide (v1.name=a2)=r:=I.inj h
 subst hr
 rw[zf (show pr.bB 233=I tL from rfl) (by simp)]
 simp only[go_sem,seval,tL,yx h2]<;>rfl
def H6 (a0:Int)(ai:qc)(bf:List UInt8)(s0:Int):Option (Int⊕(Int⊕Int)):=
 cond (decide (s0<a0))
  (jw (f233 s0 ai bf) fun v10=>
  cond v10
   (I (.inr (.inl s0)))
   (I (.inl (j6 .i64 (s0+1)))))
  (I (.inr (.inr s0)))
def L0 (a0:Int)(ai:qc)(bf:List UInt8)(s0:Int):qg:=⟨[(1,.fn (.func 233) [] [.ah (aR ai),.ah (.str bf)],Eh),(5,Iv (-1),Eh),(7,Iv a0,Eh),(8,Iv s0,Eh)],[]⟩
def L2 (a0:Int)(ai:qc)(bf:List UInt8):Int⊕Int→qi×qg
 | .inl d=>(.exit 0,⟨[(5,Iv d,Eh)],[]⟩)
 | .inr d=>(.exit 0,⟨[(1,.fn (.func 233) [] [.ah (aR ai),.ah (.str bf)],Eh),(5,Iv (-1),Eh),(7,Iv a0,Eh),(8,Iv d,Eh),(9,.bool Eh,Eh)],[]⟩)
theorem jnq (a0:Int)(ai:qc)(bf:List UInt8)(s0:Int)(r)(h:H6 a0 ai bf s0=I r):yr pr pf (L0 a0 ai bf) (L2 a0 ai bf) s0 r:=by
 unfold H6 at h
 repeat' first|(replace h:=jx h;obtain⟨d,g,h⟩:=h;with_reducible first|replace g:=zis [] g|skip)|(replace h:=jz h;rcases h with⟨g,h⟩|⟨g,h⟩)|fail
 all_goals (cases h<;>(first|(refine zu ?_;simp only[go_sem,seval,pf,L0,L2, *]<;>rfl)|(refine yl ?_;simp only[go_sem,seval,pf,L0,L2, *]<;>rfl)))
theorem jn9 (a0:Int)(ai:qc)(bf:List UInt8){s0 d}(h:aY (H6 a0 ai bf) s0=I d):X pr (.loop pf) (L0 a0 ai bf s0)=I (L2 a0 ai bf d):=y8 (jnq a0 ai bf) (fun d=>by rcases d with d|d<;>(intro hh;cases hh)) h
def H5 (a0:Int)(ai:qc)(bf:List UInt8):Option Int:=
 jw (aY (H6 a0 ai bf) 0) fun d13=>match d13 with
  | .inl d15=>
   I d15
  | .inr d16=>
   I (-1)
theorem j1m {a0 ai bf r}(h:H5 a0 ai bf=I r):jy pr (X pr) 130 [Iv a0,.fn (.func 233) [] [.ah (aR ai),.ah (.str bf)]]=I (Iv r,Eh):=by
 unfold H5 at h
 refine yz kY ?_
 repeat' first|(replace h:=jx h;obtain⟨d,g,h⟩:=h;with_reducible first|(replace g:=jn9 a0 ai bf g;rcases d with d|d<;>dsimp only[L0,L2,y7]at g h)|skip)|(replace h:=jz h;rcases h with⟨g,h⟩|⟨g,h⟩)|fail
 all_goals (cases h<;>(simp only[go_sem,seval,kY, *];exact⟨_,rfl⟩))
def f165 (a0:qc)(a1:List UInt8):Option Int:=
 jw (H5 ((a0.ae.getD []).length:Int) a0 a1) fun v1=>
 I v1
theorem vH {a0 a1 r}(h:f165 a0 a1=I r):jy pr (X pr) 165 [aR a0,.str a1]=I (Iv r,Eh):=by
 unfold f165 at h
 refine yz tM ?_
 repeat' first|(replace h:=jx h;obtain⟨d,g,h⟩:=h;with_reducible first|replace g:=j1m g|skip)|(replace h:=jz h;rcases h with⟨g,h⟩|⟨g,h⟩)|fail
 all_goals (cases h<;>(simp only[go_sem,seval,tM, *];exact⟨_,rfl⟩))
def f148 (a0:Int)(a1:qc)(a2:List UInt8):Option Bool:=
 jw (zn (a1.units.getD []) a0) fun v1=>
 I (decide (v1.name=a2))
theorem zdy (hp:za){a0 a1 a2 r}(h:f148 a0 a1 a2=I r):ze pr (X pr) 148 [Iv a0,.ah (aR a1),.ah (.str a2)] hp=I (.bool r,Eh,hp):=by
 unfold f148 at h
 obtain⟨v1,h2,h⟩:=jx h
 have hr:decide (v1.name=a2)=r:=I.inj h
 subst hr
 rw[zf (show pr.bB 148=I tN from rfl) (by simp)]
 simp only[go_sem,seval,tN,yx h2]<;>rfl
def H8 (a0:Int)(ai:qc)(bf:List UInt8)(s0:Int):Option (Int⊕(Int⊕Int)):=
 cond (decide (s0<a0))
  (jw (f148 s0 ai bf) fun v10=>
  cond v10
   (I (.inr (.inl s0)))
   (I (.inl (j6 .i64 (s0+1)))))
  (I (.inr (.inr s0)))
def L3 (a0:Int)(ai:qc)(bf:List UInt8)(s0:Int):qg:=⟨[(1,.fn (.func 148) [] [.ah (aR ai),.ah (.str bf)],Eh),(5,Iv (-1),Eh),(7,Iv a0,Eh),(8,Iv s0,Eh)],[]⟩
def L4 (a0:Int)(ai:qc)(bf:List UInt8):Int⊕Int→qi×qg
 | .inl d=>(.exit 0,⟨[(5,Iv d,Eh)],[]⟩)
 | .inr d=>(.exit 0,⟨[(1,.fn (.func 148) [] [.ah (aR ai),.ah (.str bf)],Eh),(5,Iv (-1),Eh),(7,Iv a0,Eh),(8,Iv d,Eh),(9,.bool Eh,Eh)],[]⟩)
theorem jl7 (a0:Int)(ai:qc)(bf:List UInt8)(s0:Int)(r)(h:H8 a0 ai bf s0=I r):yr pr pf (L3 a0 ai bf) (L4 a0 ai bf) s0 r:=by
 unfold H8 at h
 repeat' first|(replace h:=jx h;obtain⟨d,g,h⟩:=h;with_reducible first|replace g:=zdy [] g|skip)|(replace h:=jz h;rcases h with⟨g,h⟩|⟨g,h⟩)|fail
 all_goals (cases h<;>(first|(refine zu ?_;simp only[go_sem,seval,pf,L3,L4, *]<;>rfl)|(refine yl ?_;simp only[go_sem,seval,pf,L3,L4, *]<;>rfl)))
theorem jm1 (a0:Int)(ai:qc)(bf:List UInt8){s0 d}(h:aY (H8 a0 ai bf) s0=I d):X pr (.loop pf) (L3 a0 ai bf s0)=I (L4 a0 ai bf d):=y8 (jl7 a0 ai bf) (fun d=>by rcases d with d|d<;>(intro hh;cases hh)) h
def H7 (a0:Int)(ai:qc)(bf:List UInt8):Option Int:=
 jw (aY (H8 a0 ai bf) 0) fun d13=>match d13 with
  | .inl d15=>
   I d15
  | .inr d16=>
   I (-1)
theorem jyg {a0 ai bf r}(h:H7 a0 ai bf=I r):jy pr (X pr) 130 [Iv a0,.fn (.func 148) [] [.ah (aR ai),.ah (.str bf)]]=I (Iv r,Eh):=by
 unfold H7 at h
 refine yz kY ?_
 repeat' first|(replace h:=jx h;obtain⟨d,g,h⟩:=h;with_reducible first|(replace g:=jm1 a0 ai bf g;rcases d with d|d<;>dsimp only[L3,L4,y7]at g h)|skip)|(replace h:=jz h;rcases h with⟨g,h⟩|⟨g,h⟩)|fail
 all_goals (cases h<;>(simp only[go_sem,seval,kY, *];exact⟨_,rfl⟩))
def f93 (a0:qc)(a1:List UInt8):Option Int:=
 jw (H7 ((a0.units.getD []).length:Int) a0 a1) fun v1=>
 I v1
theorem vD {a0 a1 r}(h:f93 a0 a1=I r):jy pr (X pr) 93 [aR a0,.str a1]=I (Iv r,Eh):=by
 unfold f93 at h
 refine yz L5 ?_
 repeat' first|(replace h:=jx h;obtain⟨d,g,h⟩:=h;with_reducible first|replace g:=jyg g|skip)|(replace h:=jz h;rcases h with⟨g,h⟩|⟨g,h⟩)|fail
 all_goals (cases h<;>(simp only[go_sem,seval,L5, *];exact⟨_,rfl⟩))
def f202 (a0:qc)(a1:Int)(a2:List UInt8):Option Bool:=
 cond (decide (a1=108))
  (jw (f72 a0 a2) fun v2=>
  I (decide (0≤v2)))
  (cond (decide (a1=112))
   (jw (f165 a0 a2) fun v5=>
   I (decide (0≤v5)))
   (cond (decide (a1=117))
    (jw (f93 a0 a2) fun v8=>
    I (decide (0≤v8)))
    (I Ek)))
theorem jp0 {a0 a1 a2 r}(h:f202 a0 a1 a2=I r):jy pr (X pr) 202 [aR a0,.int .i32 a1,.str a2]=I (.bool r,Eh):=by
 unfold f202 at h
 refine yz tO ?_
 repeat' first|(replace h:=jx h;obtain⟨d,g,h⟩:=h;with_reducible first|replace g:=BU g|replace g:=vH g|replace g:=vD g|skip)|(replace h:=jz h;rcases h with⟨g,h⟩|⟨g,h⟩)|fail
 all_goals (cases h<;>(simp only[go_sem,seval,tO, *];exact⟨_,rfl⟩))
def f182 (a0:qq):Option Int:=
 I ((a0.aO.getD []).length:Int)
theorem jue {a0 r}(h:f182 a0=I r):jy pr (X pr) 182 [aP a0]=I (Iv r,Eh):=by
 unfold f182 at h
 have hr:((a0.aO.getD []).length:Int)=r:=I.inj h
 subst hr
 have this:∃hh,ze pr (X pr) 182 [aP a0] []=I (Lv a0.aO,Eh,hh):=by
  rw[zf (show pr.bB 182=I tP from rfl) (by simp)]
  simp only[go_sem,seval,tP]
  exact⟨_,rfl⟩
 obtain⟨hh,this⟩:=this
 exact kr rfl this (by first|rfl|simp only[go_sem,seval]) (by first|rfl|simp only[go_sem,seval])
def f140 (a0:qc)(a1:qf):Option Int:=
 jw (f165 a0 a1.product) fun v1=>
 jw (zn (a0.ae.getD []) v1) fun v3=>
 jw (f182 v3) fun v5=>
 I v5
theorem jsn {a0 a1 r}(h:f140 a0 a1=I r):jy pr (X pr) 140 [aR a0,aU a1]=I (Iv r,Eh):=by
 unfold f140 at h
 refine yz tQ ?_
 repeat' first|(replace h:=jx h;obtain⟨d,g,h⟩:=h;with_reducible first|replace g:=vH g|replace g:=jue g|skip)|(replace h:=jz h;rcases h with⟨g,h⟩|⟨g,h⟩)|fail
 all_goals (cases h<;>(simp only[go_sem,seval,tQ,zj, *];exact⟨_,rfl⟩))
def f134 (a0:qc)(a1:qf):Option qt:=
 jw (f165 a0 a1.product) fun v1=>
 jw (zn (a0.ae.getD []) v1) fun v3=>
 jw (zn (v3.aO.getD []) (j6 .i64 (a1.version-1))) fun v5=>
 I v5
theorem PH {a0 a1 r}(h:f134 a0 a1=I r):jy pr (X pr) 134 [aR a0,aU a1]=I (aD r,Eh):=by
 unfold f134 at h
 refine yz tR ?_
 repeat' first|(replace h:=jx h;obtain⟨d,g,h⟩:=h;with_reducible first|replace g:=vH g|skip)|(replace h:=jz h;rcases h with⟨g,h⟩|⟨g,h⟩)|fail
 all_goals (cases h<;>(simp only[go_sem,seval,tR,zj, *];exact⟨_,rfl⟩))
def Be (a0:qf)(a1:qj)(s0:Int×(List UInt8)×Int×Int):Option ((Int×(List UInt8)×Int×Int)⊕((Int×(List UInt8)×Int×Int))):=
 cond (decide (s0.1<((a0.results.getD []).length:Int)))
  (jw (zn (a0.results.getD []) s0.1) fun v12=>
  cond (decide (v12.k=a1.k))
   (cond (decide (v12.a=a0.version))
    (I (.inl (j6 .i64 (s0.1+1),v12.k,v12.a,v12.b)))
    (I (.inl (j6 .i64 (s0.1+1),s0.2.1,s0.2.2.1,s0.2.2.2))))
   (I (.inl (j6 .i64 (s0.1+1),s0.2.1,s0.2.2.1,s0.2.2.2))))
  (I (.inr (s0.1,s0.2.1,s0.2.2.1,s0.2.2.2)))
def L6 (a0:qf)(a1:qj)(s0:Int×(List UInt8)×Int×Int):qg:=⟨[(2,.ah (aU a0),Eh),(3,.ah (aT a1),Eh),(5,.ptr 0 0,Eh),(10,sl 3 zx a0.results,Eh),(11,Lv a0.results,Eh),(12,Iv s0.1,Eh)],[.cells [(.str s0.2.1,Eh),(Iv s0.2.2.1,Eh),(Iv s0.2.2.2,Eh)]]⟩
def L7 (a0:qf)(a1:qj)(d:(Int×(List UInt8)×Int×Int)):qi×qg:=(.exit 0,⟨[(2,.ah (aU a0),Eh),(3,.ah (aT a1),Eh),(5,.ptr 0 0,Eh),(10,sl 3 zx a0.results,Eh),(11,Lv a0.results,Eh),(12,Iv d.1,Eh),(13,.bool Eh,Eh)],[.cells [(.str d.2.1,Eh),(Iv d.2.2.1,Eh),(Iv d.2.2.2,Eh)]]⟩)
theorem jrq (a0:qf)(a1:qj)(s0:Int×(List UInt8)×Int×Int)(r)(h:Be a0 a1 s0=I r):yr pr L8 (L6 a0 a1) (L7 a0 a1) s0 r:=by
 unfold Be at h
 repeat' first|(replace h:=jx h;obtain⟨d,g,h⟩:=h)|(replace h:=jz h;rcases h with⟨g,h⟩|⟨g,h⟩)|fail
 all_goals (cases h<;>(first|(refine zu ?_;simp only[go_sem,seval,L8,L6,zj,L7, *]<;>rfl)|(refine yl ?_;simp only[go_sem,seval,L8,L6,zj,L7, *]<;>rfl)))
theorem jty (a0:qf)(a1:qj){s0 d}(h:aY (Be a0 a1) s0=I d):X pr (.loop L8) (L6 a0 a1 s0)=I (L7 a0 a1 d):=y8 (jrq a0 a1) (fun d hh=>by cases hh) h
def f136 (a0:qf)(a1:qj):Option Bool:=
 jw (aY (Be a0 a1) (0,[],(-1),0)) fun d16=>
 cond (decide (d16.2.1=[])&&decide (d16.2.2.1=(-1))&&decide (d16.2.2.2=0))
  (I Eh)
  (cond (decide (a1.a≤d16.2.2.2))
   (I (decide (d16.2.2.2≤a1.b)))
   (I Eh))
theorem zby {a0 a1 r}(h:f136 a0 a1=I r):jy pr (X pr) 136 [aU a0,aT a1]=I (.bool r,Eh):=by
 unfold f136 at h
 refine yz tS ?_
 repeat' first|(replace h:=jx h;obtain⟨d,g,h⟩:=h;with_reducible first|(replace g:=jty a0 a1 g;dsimp only[L6,L7,y7]at g h)|skip)|(replace h:=jz h;rcases h with⟨g,h⟩|⟨g,h⟩)|fail
 all_goals (cases h<;>(simp only[go_sem,seval,tS, *];exact⟨_,rfl⟩))
def f135 (a0:qj)(a1:qf):Option Bool:=
 jw (f136 a1 a0) fun v1=>
 I (!v1)
theorem zih (hp:za){a0 a1 r}(h:f135 a0 a1=I r):ze pr (X pr) 135 [aT a0,.ah (aU a1)] hp=I (.bool r,Eh,hp):=by
 unfold f135 at h
 obtain⟨v1,h2,h⟩:=jx h
 have iR:jy pr (X pr) 136 [aU a1,aT a0]=I (.bool v1,Eh):=zby h2
 have hr:(!v1)=r:=I.inj h
 subst hr
 rw[zf (show pr.bB 135=I tT from rfl) (by simp)]
 simp only[go_sem,seval,tT,iR]<;>rfl
def Ib (a0:Option (List qj))(ai:qf)(s0:(Option (List qj))×Int×Bool):Option (((Option (List qj))×Int×Bool)⊕(((Option (List qj))×Bool×Int))):=
 cond (decide (s0.2.1<((a0.getD []).length:Int)))
  (jw (zn (a0.getD []) s0.2.1) fun v20=>
  jw (f135 v20 ai) fun eH=>
  cond eH
   (cond s0.2.2
    (jw (bj s0.1 [v20]) fun eg=>
    I (.inl (eg,j6 .i64 (s0.2.1+1),Ek)))
    (cond s0.1.isNone
     (jw (bj s0.1 [v20]) fun fc=>
     I (.inl (fc,j6 .i64 (s0.2.1+1),Ek)))
     (En)))
   (I (.inl (s0.1,j6 .i64 (s0.2.1+1),s0.2.2))))
  (I (.inr (s0.1,s0.2.2,s0.2.1)))
def L9 (a0:Option (List qj))(ai:qf)(s0:(Option (List qj))×Int×Bool):qg:=⟨[(1,.fn (.func 135) [] [.ah (aU ai)],Eh),(5,sl 3 zx s0.1,s0.2.2),(8,sl 3 zx a0,Eh),(9,Lv a0,Eh),(10,Iv s0.2.1,Eh)],[]⟩
def Ma (a0:Option (List qj))(ai:qf)(d:((Option (List qj))×Bool×Int)):qi×qg:=(.exit 0,⟨[(1,.fn (.func 135) [] [.ah (aU ai)],Eh),(5,sl 3 zx d.1,d.2.1),(8,sl 3 zx a0,Eh),(9,Lv a0,Eh),(10,Iv d.2.2,Eh),(11,.bool Eh,Eh)],[]⟩)
theorem jss (a0:Option (List qj))(ai:qf)(s0:(Option (List qj))×Int×Bool)(r)(h:Ib a0 ai s0=I r):yr pr Mb (L9 a0 ai) (Ma a0 ai) s0 r:=by
 unfold Ib at h
 repeat' first|(replace h:=jx h;obtain⟨d,g,h⟩:=h;with_reducible first|replace g:=zih [] g|replace g:=ES g|skip)|(replace h:=jz h;rcases h with⟨g,h⟩|⟨g,h⟩)|fail
 all_goals (cases h<;>(first|(refine zu ?_;simp only[go_sem,seval,Mb,L9,zj,Ma, *]<;>rfl)|(refine yl ?_;simp only[go_sem,seval,Mb,L9,zj,Ma, *]<;>rfl)))
theorem jqa (a0:Option (List qj))(ai:qf){s0 d}(h:aY (Ib a0 ai) s0=I d):X pr (.loop Mb) (L9 a0 ai s0)=I (Ma a0 ai d):=y8 (jss a0 ai) (fun d hh=>by cases hh) h
def f133 (a0:Option (List qj))(ai:qf):Option ((Option (List qj))×Bool):=
 jw (aY (Ib a0 ai) (En,0,Eh)) fun d31=>
 I (d31.1,d31.2.1)
theorem zd7 {a0 ai r}(h:f133 a0 ai=I r):jy pr (X pr) 133 [sl 3 zx a0,.fn (.func 135) [] [.ah (aU ai)]]=I (sl 3 zx r.1,r.2):=by
 unfold f133 at h
 refine eh tU ?_
 repeat' first|(replace h:=jx h;obtain⟨d,g,h⟩:=h;with_reducible first|(replace g:=jqa a0 ai g;dsimp only[L9,Ma,y7]at g h)|skip)|(replace h:=jz h;rcases h with⟨g,h⟩|⟨g,h⟩)|fail
 all_goals (cases h<;>(simp only[go_sem,seval,tU, *];exact⟨_,rfl⟩))
def f138 (a0:qj):Option (List UInt8):=
 I a0.k
theorem zhc (hp:za){a0 r}(h:f138 a0=I r):ze pr (X pr) 138 [aT a0] hp=I (.str r,Eh,hp):=by
 unfold f138 at h
 have hr:a0.k=r:=I.inj h
 subst hr
 rw[zf (show pr.bB 138=I tV from rfl) (by simp)]
 simp only[go_sem,seval,tV]<;>rfl
def Ic (a0:Option (List qj))(s0:(Option (List (List UInt8)))×Int×Bool):Option (((Option (List (List UInt8)))×Int×Bool)⊕(((Option (List (List UInt8)))×Bool×Int))):=
 cond (decide (s0.2.1<((a0.getD []).length:Int)))
  (jw (zn (a0.getD []) s0.2.1) fun iT=>
  jw (f138 iT) fun v20=>
  cond s0.2.2
   (jw (bj s0.1 [v20]) fun jH=>
   I (.inl (jH,j6 .i64 (s0.2.1+1),Ek)))
   (cond s0.1.isNone
    (jw (bj s0.1 [v20]) fun eg=>
    I (.inl (eg,j6 .i64 (s0.2.1+1),Ek)))
    (En)))
  (I (.inr (s0.1,s0.2.2,s0.2.1)))
def Mc (a0:Option (List qj))(s0:(Option (List (List UInt8)))×Int×Bool):qg:=⟨[(1,.fn (.func 138) [] [],Eh),(5,sl 1 zk s0.1,s0.2.2),(8,sl 3 zx a0,Eh),(9,Lv a0,Eh),(10,Iv s0.2.1,Eh)],[]⟩
def Md (a0:Option (List qj))(d:((Option (List (List UInt8)))×Bool×Int)):qi×qg:=(.exit 0,⟨[(1,.fn (.func 138) [] [],Eh),(5,sl 1 zk d.1,d.2.1),(8,sl 3 zx a0,Eh),(9,Lv a0,Eh),(10,Iv d.2.2,Eh),(11,.bool Eh,Eh)],[]⟩)
theorem juv (a0:Option (List qj))(s0:(Option (List (List UInt8)))×Int×Bool)(r)(h:Ic a0 s0=I r):yr pr Me (Mc a0) (Md a0) s0 r:=by
 unfold Ic at h
 repeat' first|(replace h:=jx h;obtain⟨d,g,h⟩:=h;with_reducible first|replace g:=zhc [] g|replace g:=H0 g|skip)|(replace h:=jz h;rcases h with⟨g,h⟩|⟨g,h⟩)|fail
 all_goals (cases h<;>(first|(refine zu ?_;simp only[go_sem,seval,Me,Mc,zj,Md, *]<;>rfl)|(refine yl ?_;simp only[go_sem,seval,Me,Mc,zj,Md, *]<;>rfl)))
theorem jtx (a0:Option (List qj)){s0 d}(h:aY (Ic a0) s0=I d):X pr (.loop Me) (Mc a0 s0)=I (Md a0 d):=y8 (juv a0) (fun d hh=>by cases hh) h
def f137 (a0:Option (List qj)):Option ((Option (List (List UInt8)))×Bool):=
 jw (aY (Ic a0) (En,0,Eh)) fun d28=>
 I (d28.1,d28.2.1)
theorem zb5 {a0 r}(h:f137 a0=I r):jy pr (X pr) 137 [sl 3 zx a0,.fn (.func 138) [] []]=I (sl 1 zk r.1,r.2):=by
 unfold f137 at h
 refine eh tW ?_
 repeat' first|(replace h:=jx h;obtain⟨d,g,h⟩:=h;with_reducible first|(replace g:=jtx a0 g;dsimp only[Mc,Md,y7]at g h)|skip)|(replace h:=jz h;rcases h with⟨g,h⟩|⟨g,h⟩)|fail
 all_goals (cases h<;>(simp only[go_sem,seval,tW, *];exact⟨_,rfl⟩))
def f74 (a0:qc)(a1:qf):Option ((Option (List (List UInt8)))×Bool):=
 jw (f134 a0 a1) fun v1=>
 jw (f133 v1.aH a1) fun v3=>
 jw (f137 v3.1) fun v5=>
 I (v5.1,v5.2)
theorem W74 {a0 a1 r}(h:f74 a0 a1=I r):jy pr (X pr) 74 [aR a0,aU a1]=I (sl 1 zk r.1,r.2):=by
 unfold f74 at h
 refine eh Mf ?_
 repeat' first|(replace h:=jx h;obtain⟨d,g,h⟩:=h;with_reducible first|replace g:=PH g|replace g:=zd7 g|replace g:=zb5 g|skip)|(replace h:=jz h;rcases h with⟨g,h⟩|⟨g,h⟩)|fail
 all_goals (cases h<;>(simp only[go_sem,seval,Mf, *];exact⟨_,rfl⟩))
def f129 (a0:qk):Option (List UInt8):=
 I a0.k
theorem zhv (hp:za){a0 r}(h:f129 a0=I r):ze pr (X pr) 129 [aN a0] hp=I (.str r,Eh,hp):=by
 unfold f129 at h
 have hr:a0.k=r:=I.inj h
 subst hr
 rw[zf (show pr.bB 129=I tX from rfl) (by simp)]
 simp only[go_sem,seval,tX]<;>rfl
def IQ (a0:Option (List qk))(s0:(Option (List (List UInt8)))×Int×Bool):Option (((Option (List (List UInt8)))×Int×Bool)⊕(((Option (List (List UInt8)))×Bool×Int))):=
 cond (decide (s0.2.1<((a0.getD []).length:Int)))
  (jw (zn (a0.getD []) s0.2.1) fun iT=>
  jw (f129 iT) fun v20=>
  cond s0.2.2
   (jw (bj s0.1 [v20]) fun jH=>
   I (.inl (jH,j6 .i64 (s0.2.1+1),Ek)))
   (cond s0.1.isNone
    (jw (bj s0.1 [v20]) fun eg=>
    I (.inl (eg,j6 .i64 (s0.2.1+1),Ek)))
    (En)))
  (I (.inr (s0.1,s0.2.2,s0.2.1)))
def Mg (a0:Option (List qk))(s0:(Option (List (List UInt8)))×Int×Bool):qg:=⟨[(1,.fn (.func 129) [] [],Eh),(5,sl 1 zk s0.1,s0.2.2),(8,sl 2 aV a0,Eh),(9,Lv a0,Eh),(10,Iv s0.2.1,Eh)],[]⟩
def Mh (a0:Option (List qk))(d:((Option (List (List UInt8)))×Bool×Int)):qi×qg:=(.exit 0,⟨[(1,.fn (.func 129) [] [],Eh),(5,sl 1 zk d.1,d.2.1),(8,sl 2 aV a0,Eh),(9,Lv a0,Eh),(10,Iv d.2.2,Eh),(11,.bool Eh,Eh)],[]⟩)
theorem jws (a0:Option (List qk))(s0:(Option (List (List UInt8)))×Int×Bool)(r)(h:IQ a0 s0=I r):yr pr Mi (Mg a0) (Mh a0) s0 r:=by
 unfold IQ at h
 repeat' first|(replace h:=jx h;obtain⟨d,g,h⟩:=h;with_reducible first|replace g:=zhv [] g|replace g:=H0 g|skip)|(replace h:=jz h;rcases h with⟨g,h⟩|⟨g,h⟩)|fail
 all_goals (cases h<;>(first|(refine zu ?_;simp only[go_sem,seval,Mi,Mg,zj,Mh, *]<;>rfl)|(refine yl ?_;simp only[go_sem,seval,Mi,Mg,zj,Mh, *]<;>rfl)))
theorem jwv (a0:Option (List qk)){s0 d}(h:aY (IQ a0) s0=I d):X pr (.loop Mi) (Mg a0 s0)=I (Mh a0 d):=y8 (jws a0) (fun d hh=>by cases hh) h
def f128 (a0:Option (List qk)):Option ((Option (List (List UInt8)))×Bool):=
 jw (aY (IQ a0) (En,0,Eh)) fun d28=>
 I (d28.1,d28.2.1)
theorem zg9 {a0 r}(h:f128 a0=I r):jy pr (X pr) 128 [sl 2 aV a0,.fn (.func 129) [] []]=I (sl 1 zk r.1,r.2):=by
 unfold f128 at h
 refine eh tY ?_
 repeat' first|(replace h:=jx h;obtain⟨d,g,h⟩:=h;with_reducible first|(replace g:=jwv a0 g;dsimp only[Mg,Mh,y7]at g h)|skip)|(replace h:=jz h;rcases h with⟨g,h⟩|⟨g,h⟩)|fail
 all_goals (cases h<;>(simp only[go_sem,seval,tY, *];exact⟨_,rfl⟩))
def f71 (a0:qf):Option ((Option (List (List UInt8)))×Bool):=
 jw (f128 a0.uses) fun v1=>
 I (v1.1,v1.2)
theorem W71 {a0 r}(h:f71 a0=I r):jy pr (X pr) 71 [aU a0]=I (sl 1 zk r.1,r.2):=by
 unfold f71 at h
 refine eh Mj ?_
 repeat' first|(replace h:=jx h;obtain⟨d,g,h⟩:=h;with_reducible first|replace g:=zg9 g|skip)|(replace h:=jz h;rcases h with⟨g,h⟩|⟨g,h⟩)|fail
 all_goals (cases h<;>(simp only[go_sem,seval,Mj, *];exact⟨_,rfl⟩))
def f91 (a0:qf):Option (List UInt8):=
 I a0.name
theorem W91 (hp:za){a0 r}(h:f91 a0=I r):ze pr (X pr) 91 [aU a0] hp=I (.str r,Eh,hp):=by
 unfold f91 at h
 have hr:a0.name=r:=I.inj h
 subst hr
 rw[zf (show pr.bB 91=I Ml from rfl) (by simp)]
 simp only[go_sem,seval,Ml]<;>rfl
def I7 (a0:Option (List qf))(s0:(Option (List (List UInt8)))×Int×Bool):Option (((Option (List (List UInt8)))×Int×Bool)⊕(((Option (List (List UInt8)))×Bool×Int))):=
 cond (decide (s0.2.1<((a0.getD []).length:Int)))
  (jw (zn (a0.getD []) s0.2.1) fun iT=>
  jw (f91 iT) fun v20=>
  cond s0.2.2
   (jw (bj s0.1 [v20]) fun jH=>
   I (.inl (jH,j6 .i64 (s0.2.1+1),Ek)))
   (cond s0.1.isNone
    (jw (bj s0.1 [v20]) fun eg=>
    I (.inl (eg,j6 .i64 (s0.2.1+1),Ek)))
    (En)))
  (I (.inr (s0.1,s0.2.2,s0.2.1)))
def Mm (a0:Option (List qf))(s0:(Option (List (List UInt8)))×Int×Bool):qg:=⟨[(1,.fn (.func 91) [] [],Eh),(5,sl 1 zk s0.1,s0.2.2),(8,sl 8 aQ a0,Eh),(9,Lv a0,Eh),(10,Iv s0.2.1,Eh)],[]⟩
def Mn (a0:Option (List qf))(d:((Option (List (List UInt8)))×Bool×Int)):qi×qg:=(.exit 0,⟨[(1,.fn (.func 91) [] [],Eh),(5,sl 1 zk d.1,d.2.1),(8,sl 8 aQ a0,Eh),(9,Lv a0,Eh),(10,Iv d.2.2,Eh),(11,.bool Eh,Eh)],[]⟩)
theorem j0m (a0:Option (List qf))(s0:(Option (List (List UInt8)))×Int×Bool)(r)(h:I7 a0 s0=I r):yr pr Mp (Mm a0) (Mn a0) s0 r:=by
 unfold I7 at h
 repeat' first|(replace h:=jx h;obtain⟨d,g,h⟩:=h;with_reducible first|replace g:=W91 [] g|replace g:=H0 g|skip)|(replace h:=jz h;rcases h with⟨g,h⟩|⟨g,h⟩)|fail
 all_goals (cases h<;>(first|(refine zu ?_;simp only[go_sem,seval,Mp,Mm,zj,Mn, *]<;>rfl)|(refine yl ?_;simp only[go_sem,seval,Mp,Mm,zj,Mn, *]<;>rfl)))
theorem j8f (a0:Option (List qf)){s0 d}(h:aY (I7 a0) s0=I d):X pr (.loop Mp) (Mm a0 s0)=I (Mn a0 d):=y8 (j0m a0) (fun d hh=>by cases hh) h
def f89 (a0:Option (List qf)):Option ((Option (List (List UInt8)))×Bool):=
 jw (aY (I7 a0) (En,0,Eh)) fun d28=>
 I (d28.1,d28.2.1)
theorem W89 {a0 r}(h:f89 a0=I r):jy pr (X pr) 89 [sl 8 aQ a0,.fn (.func 91) [] []]=I (sl 1 zk r.1,r.2):=by
 unfold f89 at h
 refine eh Mq ?_
 repeat' first|(replace h:=jx h;obtain⟨d,g,h⟩:=h;with_reducible first|(replace g:=j8f a0 g;dsimp only[Mm,Mn,y7]at g h)|skip)|(replace h:=jz h;rcases h with⟨g,h⟩|⟨g,h⟩)|fail
 all_goals (cases h<;>(simp only[go_sem,seval,Mq, *];exact⟨_,rfl⟩))
end Go.Z
namespace Go.Z
open Go Go.Abs Go.W
def f232 (a0:Option (List qm)):Option ((Option (List qm))×Bool):=
 cond a0.isNone
  (I (En,Eh))
  (jw (bj (I []) (a0.getD [])) fun v2=>
  I (v2,Ek))
theorem zhk {a0 r}(h:f232 a0=I r):jy pr (X pr) 232 [sl 5 zw a0]=I (sl 5 zw r.1,r.2):=by
 unfold f232 at h
 refine eh tZ ?_
 repeat' first|(replace h:=jx h;obtain⟨d,g,h⟩:=h)|(replace h:=jz h;rcases h with⟨g,h⟩|⟨g,h⟩)|fail
 all_goals (cases h<;>(simp only[go_sem,seval,tZ,lN, *];exact⟨_,rfl⟩))
def f234 (a0:Option (List qq)):Option ((Option (List qq))×Bool):=
 cond a0.isNone
  (I (En,Eh))
  (jw (bj (I []) (a0.getD [])) fun v2=>
  I (v2,Ek))
theorem zib {a0 r}(h:f234 a0=I r):jy pr (X pr) 234 [sl 4 zm a0]=I (sl 4 zm r.1,r.2):=by
 unfold f234 at h
 refine eh ua ?_
 repeat' first|(replace h:=jx h;obtain⟨d,g,h⟩:=h)|(replace h:=jz h;rcases h with⟨g,h⟩|⟨g,h⟩)|fail
 all_goals (cases h<;>(simp only[go_sem,seval,ua,lN, *];exact⟨_,rfl⟩))
def f247 (a0:Option (List qf)):Option ((Option (List qf))×Bool):=
 cond a0.isNone
  (I (En,Eh))
  (jw (bj (I []) (a0.getD [])) fun v2=>
  I (v2,Ek))
theorem zgx {a0 r}(h:f247 a0=I r):jy pr (X pr) 247 [sl 8 aQ a0]=I (sl 8 aQ r.1,r.2):=by
 unfold f247 at h
 refine eh ub ?_
 repeat' first|(replace h:=jx h;obtain⟨d,g,h⟩:=h)|(replace h:=jz h;rcases h with⟨g,h⟩|⟨g,h⟩)|fail
 all_goals (cases h<;>(simp only[go_sem,seval,ub,lN, *];exact⟨_,rfl⟩))
def f244 (a0:Option (List qt)):Option ((Option (List qt))×Bool):=
 cond a0.isNone
  (I (En,Eh))
  (jw (bj (I []) (a0.getD [])) fun v2=>
  I (v2,Ek))
theorem zcl {a0 r}(h:f244 a0=I r):jy pr (X pr) 244 [sl 2 db a0]=I (sl 2 db r.1,r.2):=by
 unfold f244 at h
 refine eh uc ?_
 repeat' first|(replace h:=jx h;obtain⟨d,g,h⟩:=h)|(replace h:=jz h;rcases h with⟨g,h⟩|⟨g,h⟩)|fail
 all_goals (cases h<;>(simp only[go_sem,seval,uc,lN, *];exact⟨_,rfl⟩))
def f245 (a0:Option (List qk)):Option ((Option (List qk))×Bool):=
 cond a0.isNone
  (I (En,Eh))
  (jw (bj (I []) (a0.getD [])) fun v2=>
  I (v2,Ek))
theorem jun {a0 r}(h:f245 a0=I r):jy pr (X pr) 245 [sl 2 aV a0]=I (sl 2 aV r.1,r.2):=by
 unfold f245 at h
 refine eh ud ?_
 repeat' first|(replace h:=jx h;obtain⟨d,g,h⟩:=h)|(replace h:=jz h;rcases h with⟨g,h⟩|⟨g,h⟩)|fail
 all_goals (cases h<;>(simp only[go_sem,seval,ud,lN, *];exact⟨_,rfl⟩))
def f246 (a0:Option (List qj)):Option ((Option (List qj))×Bool):=
 cond a0.isNone
  (I (En,Eh))
  (jw (bj (I []) (a0.getD [])) fun v2=>
  I (v2,Ek))
theorem jvv {a0 r}(h:f246 a0=I r):jy pr (X pr) 246 [sl 3 zx a0]=I (sl 3 zx r.1,r.2):=by
 unfold f246 at h
 refine eh uf ?_
 repeat' first|(replace h:=jx h;obtain⟨d,g,h⟩:=h)|(replace h:=jz h;rcases h with⟨g,h⟩|⟨g,h⟩)|fail
 all_goals (cases h<;>(simp only[go_sem,seval,uf,lN, *];exact⟨_,rfl⟩))
def f251 (a0:Option (List qj)):Option ((Option (List qj))×Bool):=
 cond a0.isNone
  (I (En,Eh))
  (jw (bj (I []) (a0.getD [])) fun v2=>
  I (v2,Ek))
theorem ze5 {a0 r}(h:f251 a0=I r):jy pr (X pr) 251 [sl 3 zx a0]=I (sl 3 zx r.1,r.2):=by
 unfold f251 at h
 refine eh ug ?_
 repeat' first|(replace h:=jx h;obtain⟨d,g,h⟩:=h)|(replace h:=jz h;rcases h with⟨g,h⟩|⟨g,h⟩)|fail
 all_goals (cases h<;>(simp only[go_sem,seval,ug,lN, *];exact⟨_,rfl⟩))
def f269 (a0:Option (List qk)):Option ((Option (List qk))×Bool):=
 cond a0.isNone
  (I (En,Eh))
  (jw (bj (I []) (a0.getD [])) fun v2=>
  I (v2,Ek))
theorem zh7 {a0 r}(h:f269 a0=I r):jy pr (X pr) 269 [sl 2 aV a0]=I (sl 2 aV r.1,r.2):=by
 unfold f269 at h
 refine eh uh ?_
 repeat' first|(replace h:=jx h;obtain⟨d,g,h⟩:=h)|(replace h:=jz h;rcases h with⟨g,h⟩|⟨g,h⟩)|fail
 all_goals (cases h<;>(simp only[go_sem,seval,uh,lN, *];exact⟨_,rfl⟩))
def f164 (a0:Option (List qm))(a1:qm):Option (Option (List qm)):=
 jw (f232 a0) fun v1=>
 cond v1.2
  (jw (bj v1.1 [a1]) fun v4=>
  I v4)
  (cond v1.1.isNone
   (jw (bj v1.1 [a1]) fun v7=>
   I v7)
   (En))
theorem zb3 {a0 a1 r}(h:f164 a0 a1=I r):jy pr (X pr) 164 [sl 5 zw a0,aL a1]=I (sl 5 zw r,Ek):=by
 unfold f164 at h
 refine eh ui ?_
 repeat' first|(replace h:=jx h;obtain⟨d,g,h⟩:=h;with_reducible first|replace g:=zhk g|replace g:=Wy g|skip)|(replace h:=jz h;rcases h with⟨g,h⟩|⟨g,h⟩)|fail
 all_goals (cases h<;>(simp only[go_sem,seval,ui, *];exact⟨_,rfl⟩))
def f166 (a0:Option (List qq))(a1:qq):Option (Option (List qq)):=
 jw (f234 a0) fun v1=>
 cond v1.2
  (jw (bj v1.1 [a1]) fun v4=>
  I v4)
  (cond v1.1.isNone
   (jw (bj v1.1 [a1]) fun v7=>
   I v7)
   (En))
theorem zd1 {a0 a1 r}(h:f166 a0 a1=I r):jy pr (X pr) 166 [sl 4 zm a0,aP a1]=I (sl 4 zm r,Ek):=by
 unfold f166 at h
 refine eh uj ?_
 repeat' first|(replace h:=jx h;obtain⟨d,g,h⟩:=h;with_reducible first|replace g:=zib g|replace g:=q44 g|skip)|(replace h:=jz h;rcases h with⟨g,h⟩|⟨g,h⟩)|fail
 all_goals (cases h<;>(simp only[go_sem,seval,uj, *];exact⟨_,rfl⟩))
def f183 (a0:Option (List qf))(a1:qf):Option (Option (List qf)):=
 jw (f247 a0) fun v1=>
 cond v1.2
  (jw (bj v1.1 [a1]) fun v4=>
  I v4)
  (cond v1.1.isNone
   (jw (bj v1.1 [a1]) fun v7=>
   I v7)
   (En))
theorem zhw {a0 a1 r}(h:f183 a0 a1=I r):jy pr (X pr) 183 [sl 8 aQ a0,aU a1]=I (sl 8 aQ r,Ek):=by
 unfold f183 at h
 refine eh uk ?_
 repeat' first|(replace h:=jx h;obtain⟨d,g,h⟩:=h;with_reducible first|replace g:=zgx g|replace g:=OT g|skip)|(replace h:=jz h;rcases h with⟨g,h⟩|⟨g,h⟩)|fail
 all_goals (cases h<;>(simp only[go_sem,seval,uk, *];exact⟨_,rfl⟩))
def f180 (a0:Option (List qt))(a1:qt):Option (Option (List qt)):=
 jw (f244 a0) fun v1=>
 cond v1.2
  (jw (bj v1.1 [a1]) fun v4=>
  I v4)
  (cond v1.1.isNone
   (jw (bj v1.1 [a1]) fun v7=>
   I v7)
   (En))
theorem zj6 {a0 a1 r}(h:f180 a0 a1=I r):jy pr (X pr) 180 [sl 2 db a0,aD a1]=I (sl 2 db r,Ek):=by
 unfold f180 at h
 refine eh ul ?_
 repeat' first|(replace h:=jx h;obtain⟨d,g,h⟩:=h;with_reducible first|replace g:=zcl g|replace g:=q7v g|skip)|(replace h:=jz h;rcases h with⟨g,h⟩|⟨g,h⟩)|fail
 all_goals (cases h<;>(simp only[go_sem,seval,ul, *];exact⟨_,rfl⟩))
def f239 (a0:Option (List qk))(a1:qk):Option (Option (List qk)):=
 jw (f245 a0) fun v1=>
 cond v1.2
  (jw (bj v1.1 [a1]) fun v4=>
  I v4)
  (cond v1.1.isNone
   (jw (bj v1.1 [a1]) fun v7=>
   I v7)
   (En))
theorem zgl {a0 a1 r}(h:f239 a0 a1=I r):jy pr (X pr) 239 [sl 2 aV a0,aN a1]=I (sl 2 aV r,Ek):=by
 unfold f239 at h
 refine eh um ?_
 repeat' first|(replace h:=jx h;obtain⟨d,g,h⟩:=h;with_reducible first|replace g:=jun g|replace g:=A7 g|skip)|(replace h:=jz h;rcases h with⟨g,h⟩|⟨g,h⟩)|fail
 all_goals (cases h<;>(simp only[go_sem,seval,um, *];exact⟨_,rfl⟩))
def f243 (a0:Option (List qj))(a1:qj):Option (Option (List qj)):=
 jw (f246 a0) fun v1=>
 cond v1.2
  (jw (bj v1.1 [a1]) fun v4=>
  I v4)
  (cond v1.1.isNone
   (jw (bj v1.1 [a1]) fun v7=>
   I v7)
   (En))
theorem za6 {a0 a1 r}(h:f243 a0 a1=I r):jy pr (X pr) 243 [sl 3 zx a0,aT a1]=I (sl 3 zx r,Ek):=by
 unfold f243 at h
 refine eh uo ?_
 repeat' first|(replace h:=jx h;obtain⟨d,g,h⟩:=h;with_reducible first|replace g:=jvv g|replace g:=ES g|skip)|(replace h:=jz h;rcases h with⟨g,h⟩|⟨g,h⟩)|fail
 all_goals (cases h<;>(simp only[go_sem,seval,uo, *];exact⟨_,rfl⟩))
def f250 (a0:Option (List qk))(a1:qk):Option (Option (List qk)):=
 jw (f269 a0) fun v1=>
 cond v1.2
  (jw (bj v1.1 [a1]) fun v4=>
  I v4)
  (cond v1.1.isNone
   (jw (bj v1.1 [a1]) fun v7=>
   I v7)
   (En))
theorem zgr {a0 a1 r}(h:f250 a0 a1=I r):jy pr (X pr) 250 [sl 2 aV a0,aN a1]=I (sl 2 aV r,Ek):=by
 unfold f250 at h
 refine eh uq ?_
 repeat' first|(replace h:=jx h;obtain⟨d,g,h⟩:=h;with_reducible first|replace g:=zh7 g|replace g:=A7 g|skip)|(replace h:=jz h;rcases h with⟨g,h⟩|⟨g,h⟩)|fail
 all_goals (cases h<;>(simp only[go_sem,seval,uq, *];exact⟨_,rfl⟩))
def f194 (a0:Option (List qj))(a1:qj):Option (Option (List qj)):=
 jw (f251 a0) fun v1=>
 cond v1.2
  (jw (bj v1.1 [a1]) fun v4=>
  I v4)
  (cond v1.1.isNone
   (jw (bj v1.1 [a1]) fun v7=>
   I v7)
   (En))
theorem zcb {a0 a1 r}(h:f194 a0 a1=I r):jy pr (X pr) 194 [sl 3 zx a0,aT a1]=I (sl 3 zx r,Ek):=by
 unfold f194 at h
 refine eh ur ?_
 repeat' first|(replace h:=jx h;obtain⟨d,g,h⟩:=h;with_reducible first|replace g:=ze5 g|replace g:=ES g|skip)|(replace h:=jz h;rcases h with⟨g,h⟩|⟨g,h⟩)|fail
 all_goals (cases h<;>(simp only[go_sem,seval,ur, *];exact⟨_,rfl⟩))
def f181 (a0:qt):Option qt:=
 jw (f245 a0.aI) fun v1=>
 jw (f246 a0.aH) fun v3=>
 I (⟨v1.1,v3.1⟩)
theorem zbu {a0 r}(h:f181 a0=I r):jy pr (X pr) 181 [aD a0]=I (aD r,Eh):=by
 unfold f181 at h
 refine yz uv ?_
 repeat' first|(replace h:=jx h;obtain⟨d,g,h⟩:=h;with_reducible first|replace g:=jun g|replace g:=jvv g|skip)|(replace h:=jz h;rcases h with⟨g,h⟩|⟨g,h⟩)|fail
 all_goals (cases h<;>(simp only[go_sem,seval,uv, *];exact⟨_,rfl⟩))
end Go.Z
end
