/- Chapter 10. -/
import Derived.Test.YtfopaakmgogpiaaGreatDoorW1
import Derived.Test.YtfopaakmgogpiaaGreatDoorAbsL
import Derived.Test.YtfopaakmgogpiaaGreatDoorCA
set_option linter.unusedVariables false
set_option linter.unusedSimpArgs false
set_option maxRecDepth 100000
set_option maxHeartbeats 4000000
noncomputable section
open Option renaming some→I,none→E0
open Bool renaming false→Ef,true→En
namespace Go.Z
open Go Go.Abs Go.W
def f131 (a0:Int)(a1:qc)(a2:List UInt8):Option Bool:=
 jw (zo (a1.au.getD []) a0) fun v1=>
 I (decide (v1.name=a2))
theorem zc0 (hp:j8){a0:Int}{a1:qc}{a2:List UInt8}{r}(h:f131 a0 a1 a2=I r):zf pr (X pr) 131 [Iv a0,.ah (aR a1),.ah (.str a2)] hp=I (.bool r,Ef,hp):=by
 unfold f131 at h
 obtain⟨v1,h2,h⟩:=jx h
 have hr:decide (v1.name=a2)=r:=I.inj h
 subst hr
 rw[zd (show pr.bj 131=I s5 from rfl) (by simp)]
 simp only[go_sem,seval,s5,kc h2]<;>rfl
def GM (a0:Int)(ar:qc)(bK:List UInt8)(s0:Int):Option (Int⊕(Int⊕Int)):=
 cond (decide (s0<a0))
  (jw (f131 s0 ar bK) fun v10=>
  cond v10
   (I (.inr (.inl s0)))
   (I (.inl (j6 .i64 (s0+1)))))
  (I (.inr (.inr s0)))
def J6 (a0:Int)(ar:qc)(bK:List UInt8)(s0:Int):qg:=⟨[(1,.fn (.func 131) [] [.ah (aR ar),.ah (.str bK)],Ef),(5,Iv (-1),Ef),(7,Iv a0,Ef),(8,Iv s0,Ef)],[]⟩
def J7 (a0:Int)(ar:qc)(bK:List UInt8):Int⊕Int→qo×qg
 | .inl d=>(.exit 0,⟨[(5,Iv d,Ef)],[]⟩)
 | .inr d=>(.exit 0,⟨[(1,.fn (.func 131) [] [.ah (aR ar),.ah (.str bK)],Ef),(5,Iv (-1),Ef),(7,Iv a0,Ef),(8,Iv d,Ef),(9,.bool Ef,Ef)],[]⟩)
theorem jly (a0:Int)(ar:qc)(bK:List UInt8)(s0:Int)(r)(h:GM a0 ar bK s0=I r):yp pr oO (J6 a0 ar bK) (J7 a0 ar bK) s0 r:=by
 unfold GM at h
 repeat' first|(replace h:=jx h;obtain⟨d,g,h⟩:=h;with_reducible first|replace g:=zc0 [] g|skip)|(replace h:=jz h;rcases h with⟨g,h⟩|⟨g,h⟩)|fail
 all_goals (cases h<;>(first|(refine zw ?_;simp only[go_sem,seval,oO,J6,J7, *]<;>rfl)|(refine yj ?_;simp only[go_sem,seval,oO,J6,J7, *]<;>rfl)))
theorem jlk (a0:Int)(ar:qc)(bK:List UInt8){s0:Int}{d}(h:bf (GM a0 ar bK) s0=I d):X pr (.loop oO) (J6 a0 ar bK s0)=I (J7 a0 ar bK d):=y7 (jly a0 ar bK) (fun d=>by rcases d with d|d<;>(intro hh;cases hh)) h
def GL (a0:Int)(ar:qc)(bK:List UInt8):Option Int:=
 jw (bf (GM a0 ar bK) 0) fun d13=>match d13 with
  | .inl d15=>
   I d15
  | .inr d16=>
   I (-1)
theorem j6i {a0:Int}{ar:qc}{bK:List UInt8}{r}(h:GL a0 ar bK=I r):jy pr (X pr) 130 [Iv a0,.fn (.func 131) [] [.ah (aR ar),.ah (.str bK)]]=I (Iv r,Ef):=by
 unfold GL at h
 refine y6 kK ?_
 repeat' first|(replace h:=jx h;obtain⟨d,g,h⟩:=h;with_reducible first|(replace g:=jlk a0 ar bK g;rcases d with d|d<;>dsimp only[J6,J7,y9]at g h)|skip)|(replace h:=jz h;rcases h with⟨g,h⟩|⟨g,h⟩)|fail
 all_goals (cases h<;>(simp only[go_sem,seval,kK, *];exact⟨_,rfl⟩))
def f72 (a0:qc)(a1:List UInt8):Option Int:=
 jw (GL ((a0.au.getD []).length:Int) a0 a1) fun v1=>
 I v1
theorem Ep {a0:qc}{a1:List UInt8}{r}(h:f72 a0 a1=I r):jy pr (X pr) 72 [aR a0,.str a1]=I (Iv r,Ef):=by
 unfold f72 at h
 refine y6 J8 ?_
 repeat' first|(replace h:=jx h;obtain⟨d,g,h⟩:=h;with_reducible first|replace g:=j6i g|skip)|(replace h:=jz h;rcases h with⟨g,h⟩|⟨g,h⟩)|fail
 all_goals (cases h<;>(simp only[go_sem,seval,J8, *];exact⟨_,rfl⟩))
def f233 (a0:Int)(a1:qc)(a2:List UInt8):Option Bool:=
 jw (zo (a1.ae.getD []) a0) fun v1=>
 I (decide (v1.name=a2))
theorem zgh (hp:j8){a0:Int}{a1:qc}{a2:List UInt8}{r}(h:f233 a0 a1 a2=I r):zf pr (X pr) 233 [Iv a0,.ah (aR a1),.ah (.str a2)] hp=I (.bool r,Ef,hp):=by
 unfold f233 at h
 obtain⟨v1,h2,h⟩:=jx h
 have hr:decide (v1.name=a2)=r:=I.inj h
 subst hr
 rw[zd (show pr.bj 233=I s6 from rfl) (by simp)]
 simp only[go_sem,seval,s6,kc h2]<;>rfl
def GO (a0:Int)(ar:qc)(bK:List UInt8)(s0:Int):Option (Int⊕(Int⊕Int)):=
 cond (decide (s0<a0))
  (jw (f233 s0 ar bK) fun v10=>
  cond v10
   (I (.inr (.inl s0)))
   (I (.inl (j6 .i64 (s0+1)))))
  (I (.inr (.inr s0)))
def J9 (a0:Int)(ar:qc)(bK:List UInt8)(s0:Int):qg:=⟨[(1,.fn (.func 233) [] [.ah (aR ar),.ah (.str bK)],Ef),(5,Iv (-1),Ef),(7,Iv a0,Ef),(8,Iv s0,Ef)],[]⟩
def Ka (a0:Int)(ar:qc)(bK:List UInt8):Int⊕Int→qo×qg
 | .inl d=>(.exit 0,⟨[(5,Iv d,Ef)],[]⟩)
 | .inr d=>(.exit 0,⟨[(1,.fn (.func 233) [] [.ah (aR ar),.ah (.str bK)],Ef),(5,Iv (-1),Ef),(7,Iv a0,Ef),(8,Iv d,Ef),(9,.bool Ef,Ef)],[]⟩)
theorem jlz (a0:Int)(ar:qc)(bK:List UInt8)(s0:Int)(r)(h:GO a0 ar bK s0=I r):yp pr oO (J9 a0 ar bK) (Ka a0 ar bK) s0 r:=by
 unfold GO at h
 repeat' first|(replace h:=jx h;obtain⟨d,g,h⟩:=h;with_reducible first|replace g:=zgh [] g|skip)|(replace h:=jz h;rcases h with⟨g,h⟩|⟨g,h⟩)|fail
 all_goals (cases h<;>(first|(refine zw ?_;simp only[go_sem,seval,oO,J9,Ka, *]<;>rfl)|(refine yj ?_;simp only[go_sem,seval,oO,J9,Ka, *]<;>rfl)))
theorem jmk (a0:Int)(ar:qc)(bK:List UInt8){s0:Int}{d}(h:bf (GO a0 ar bK) s0=I d):X pr (.loop oO) (J9 a0 ar bK s0)=I (Ka a0 ar bK d):=y7 (jlz a0 ar bK) (fun d=>by rcases d with d|d<;>(intro hh;cases hh)) h
def GN (a0:Int)(ar:qc)(bK:List UInt8):Option Int:=
 jw (bf (GO a0 ar bK) 0) fun d13=>match d13 with
  | .inl d15=>
   I d15
  | .inr d16=>
   I (-1)
theorem j4a {a0:Int}{ar:qc}{bK:List UInt8}{r}(h:GN a0 ar bK=I r):jy pr (X pr) 130 [Iv a0,.fn (.func 233) [] [.ah (aR ar),.ah (.str bK)]]=I (Iv r,Ef):=by
 unfold GN at h
 refine y6 kK ?_
 repeat' first|(replace h:=jx h;obtain⟨d,g,h⟩:=h;with_reducible first|(replace g:=jmk a0 ar bK g;rcases d with d|d<;>dsimp only[J9,Ka,y9]at g h)|skip)|(replace h:=jz h;rcases h with⟨g,h⟩|⟨g,h⟩)|fail
 all_goals (cases h<;>(simp only[go_sem,seval,kK, *];exact⟨_,rfl⟩))
def f165 (a0:qc)(a1:List UInt8):Option Int:=
 jw (GN ((a0.ae.getD []).length:Int) a0 a1) fun v1=>
 I v1
theorem uZ {a0:qc}{a1:List UInt8}{r}(h:f165 a0 a1=I r):jy pr (X pr) 165 [aR a0,.str a1]=I (Iv r,Ef):=by
 unfold f165 at h
 refine y6 s7 ?_
 repeat' first|(replace h:=jx h;obtain⟨d,g,h⟩:=h;with_reducible first|replace g:=j4a g|skip)|(replace h:=jz h;rcases h with⟨g,h⟩|⟨g,h⟩)|fail
 all_goals (cases h<;>(simp only[go_sem,seval,s7, *];exact⟨_,rfl⟩))
def f148 (a0:Int)(a1:qc)(a2:List UInt8):Option Bool:=
 jw (zo (a1.units.getD []) a0) fun v1=>
 I (decide (v1.name=a2))
theorem zdx (hp:j8){a0:Int}{a1:qc}{a2:List UInt8}{r}(h:f148 a0 a1 a2=I r):zf pr (X pr) 148 [Iv a0,.ah (aR a1),.ah (.str a2)] hp=I (.bool r,Ef,hp):=by
 unfold f148 at h
 obtain⟨v1,h2,h⟩:=jx h
 have hr:decide (v1.name=a2)=r:=I.inj h
 subst hr
 rw[zd (show pr.bj 148=I s9 from rfl) (by simp)]
 simp only[go_sem,seval,s9,kc h2]<;>rfl
def GR (a0:Int)(ar:qc)(bK:List UInt8)(s0:Int):Option (Int⊕(Int⊕Int)):=
 cond (decide (s0<a0))
  (jw (f148 s0 ar bK) fun v10=>
  cond v10
   (I (.inr (.inl s0)))
   (I (.inl (j6 .i64 (s0+1)))))
  (I (.inr (.inr s0)))
def Kb (a0:Int)(ar:qc)(bK:List UInt8)(s0:Int):qg:=⟨[(1,.fn (.func 148) [] [.ah (aR ar),.ah (.str bK)],Ef),(5,Iv (-1),Ef),(7,Iv a0,Ef),(8,Iv s0,Ef)],[]⟩
def Kc (a0:Int)(ar:qc)(bK:List UInt8):Int⊕Int→qo×qg
 | .inl d=>(.exit 0,⟨[(5,Iv d,Ef)],[]⟩)
 | .inr d=>(.exit 0,⟨[(1,.fn (.func 148) [] [.ah (aR ar),.ah (.str bK)],Ef),(5,Iv (-1),Ef),(7,Iv a0,Ef),(8,Iv d,Ef),(9,.bool Ef,Ef)],[]⟩)
theorem jlp (a0:Int)(ar:qc)(bK:List UInt8)(s0:Int)(r)(h:GR a0 ar bK s0=I r):yp pr oO (Kb a0 ar bK) (Kc a0 ar bK) s0 r:=by
 unfold GR at h
 repeat' first|(replace h:=jx h;obtain⟨d,g,h⟩:=h;with_reducible first|replace g:=zdx [] g|skip)|(replace h:=jz h;rcases h with⟨g,h⟩|⟨g,h⟩)|fail
 all_goals (cases h<;>(first|(refine zw ?_;simp only[go_sem,seval,oO,Kb,Kc, *]<;>rfl)|(refine yj ?_;simp only[go_sem,seval,oO,Kb,Kc, *]<;>rfl)))
theorem jmm (a0:Int)(ar:qc)(bK:List UInt8){s0:Int}{d}(h:bf (GR a0 ar bK) s0=I d):X pr (.loop oO) (Kb a0 ar bK s0)=I (Kc a0 ar bK d):=y7 (jlp a0 ar bK) (fun d=>by rcases d with d|d<;>(intro hh;cases hh)) h
def GQ (a0:Int)(ar:qc)(bK:List UInt8):Option Int:=
 jw (bf (GR a0 ar bK) 0) fun d13=>match d13 with
  | .inl d15=>
   I d15
  | .inr d16=>
   I (-1)
theorem j3g {a0:Int}{ar:qc}{bK:List UInt8}{r}(h:GQ a0 ar bK=I r):jy pr (X pr) 130 [Iv a0,.fn (.func 148) [] [.ah (aR ar),.ah (.str bK)]]=I (Iv r,Ef):=by
 unfold GQ at h
 refine y6 kK ?_
 repeat' first|(replace h:=jx h;obtain⟨d,g,h⟩:=h;with_reducible first|(replace g:=jmm a0 ar bK g;rcases d with d|d<;>dsimp only[Kb,Kc,y9]at g h)|skip)|(replace h:=jz h;rcases h with⟨g,h⟩|⟨g,h⟩)|fail
 all_goals (cases h<;>(simp only[go_sem,seval,kK, *];exact⟨_,rfl⟩))
def f93 (a0:qc)(a1:List UInt8):Option Int:=
 jw (GQ ((a0.units.getD []).length:Int) a0 a1) fun v1=>
 I v1
theorem yB {a0:qc}{a1:List UInt8}{r}(h:f93 a0 a1=I r):jy pr (X pr) 93 [aR a0,.str a1]=I (Iv r,Ef):=by
 unfold f93 at h
 refine y6 Ke ?_
 repeat' first|(replace h:=jx h;obtain⟨d,g,h⟩:=h;with_reducible first|replace g:=j3g g|skip)|(replace h:=jz h;rcases h with⟨g,h⟩|⟨g,h⟩)|fail
 all_goals (cases h<;>(simp only[go_sem,seval,Ke, *];exact⟨_,rfl⟩))
def f202 (a0:qc)(a1:Int)(a2:List UInt8):Option Bool:=
 cond (decide (a1=108))
  (jw (f72 a0 a2) fun v2=>
  I (decide (0≤v2)))
  (cond (decide (a1=112))
   (jw (f165 a0 a2) fun v5=>
   I (decide (0≤v5)))
   (cond (decide (a1=117))
    (jw (f93 a0 a2) fun v8=>
    I (decide (0≤v8)))
    (I En)))
theorem jo4 {a0:qc}{a1:Int}{a2:List UInt8}{r}(h:f202 a0 a1 a2=I r):jy pr (X pr) 202 [aR a0,.int .i32 a1,.str a2]=I (.bool r,Ef):=by
 unfold f202 at h
 refine y6 tc ?_
 repeat' first|(replace h:=jx h;obtain⟨d,g,h⟩:=h;with_reducible first|replace g:=Ep g|replace g:=uZ g|replace g:=yB g|skip)|(replace h:=jz h;rcases h with⟨g,h⟩|⟨g,h⟩)|fail
 all_goals (cases h<;>(simp only[go_sem,seval,tc, *];exact⟨_,rfl⟩))
def f182 (a0:qi):Option Int:=
 I ((a0.aH.getD []).length:Int)
theorem jsp {a0:qi}{r}(h:f182 a0=I r):jy pr (X pr) 182 [aP a0]=I (Iv r,Ef):=by
 unfold f182 at h
 have hr:((a0.aH.getD []).length:Int)=r:=I.inj h
 subst hr
 have this:∃hh,zf pr (X pr) 182 [aP a0] []=I (Lv a0.aH,Ef,hh):=by
  rw[zd (show pr.bj 182=I tf from rfl) (by simp)]
  simp only[go_sem,seval,tf]
  exact⟨_,rfl⟩
 obtain⟨hh,this⟩:=this
 exact ko rfl this (by first|rfl|simp only[go_sem,seval]) (by first|rfl|simp only[go_sem,seval])
def f140 (a0:qc)(a1:qf):Option Int:=
 jw (f165 a0 a1.product) fun v1=>
 jw (zo (a0.ae.getD []) v1) fun v3=>
 jw (f182 v3) fun v5=>
 I v5
theorem jq7 {a0:qc}{a1:qf}{r}(h:f140 a0 a1=I r):jy pr (X pr) 140 [aR a0,aU a1]=I (Iv r,Ef):=by
 unfold f140 at h
 refine y6 tj ?_
 repeat' first|(replace h:=jx h;obtain⟨d,g,h⟩:=h;with_reducible first|replace g:=uZ g|replace g:=jsp g|skip)|(replace h:=jz h;rcases h with⟨g,h⟩|⟨g,h⟩)|fail
 all_goals (cases h<;>(simp only[go_sem,seval,tj,zn, *];exact⟨_,rfl⟩))
def f134 (a0:qc)(a1:qf):Option qr:=
 jw (f165 a0 a1.product) fun v1=>
 jw (zo (a0.ae.getD []) v1) fun v3=>
 jw (zo (v3.aH.getD []) (j6 .i64 (a1.version-1))) fun v5=>
 I v5
theorem NY {a0:qc}{a1:qf}{r}(h:f134 a0 a1=I r):jy pr (X pr) 134 [aR a0,aU a1]=I (aD r,Ef):=by
 unfold f134 at h
 refine y6 tm ?_
 repeat' first|(replace h:=jx h;obtain⟨d,g,h⟩:=h;with_reducible first|replace g:=uZ g|skip)|(replace h:=jz h;rcases h with⟨g,h⟩|⟨g,h⟩)|fail
 all_goals (cases h<;>(simp only[go_sem,seval,tm,zn, *];exact⟨_,rfl⟩))
def Ax (a0:qf)(a1:qj)(s0:Int×(List UInt8)×Int×Int):Option ((Int×(List UInt8)×Int×Int)⊕((Int×(List UInt8)×Int×Int))):=
 cond (decide (s0.1<((a0.results.getD []).length:Int)))
  (jw (zo (a0.results.getD []) s0.1) fun v12=>
  cond (decide (v12.k=a1.k))
   (cond (decide (v12.a=a0.version))
    (I (.inl (j6 .i64 (s0.1+1),v12.k,v12.a,v12.b)))
    (I (.inl (j6 .i64 (s0.1+1),s0.2.1,s0.2.2.1,s0.2.2.2))))
   (I (.inl (j6 .i64 (s0.1+1),s0.2.1,s0.2.2.1,s0.2.2.2))))
  (I (.inr (s0.1,s0.2.1,s0.2.2.1,s0.2.2.2)))
def Kf (a0:qf)(a1:qj)(s0:Int×(List UInt8)×Int×Int):qg:=⟨[(2,.ah (aU a0),Ef),(3,.ah (aT a1),Ef),(5,.ptr 0 0,Ef),(10,sl 3 zz a0.results,Ef),(11,Lv a0.results,Ef),(12,Iv s0.1,Ef)],[.cells [(.str s0.2.1,Ef),(Iv s0.2.2.1,Ef),(Iv s0.2.2.2,Ef)]]⟩
def Kg (a0:qf)(a1:qj)(d:(Int×(List UInt8)×Int×Int)):qo×qg:=(.exit 0,⟨[(2,.ah (aU a0),Ef),(3,.ah (aT a1),Ef),(5,.ptr 0 0,Ef),(10,sl 3 zz a0.results,Ef),(11,Lv a0.results,Ef),(12,Iv d.1,Ef),(13,.bool Ef,Ef)],[.cells [(.str d.2.1,Ef),(Iv d.2.2.1,Ef),(Iv d.2.2.2,Ef)]]⟩)
theorem jqi (a0:qf)(a1:qj)(s0:Int×(List UInt8)×Int×Int)(r)(h:Ax a0 a1 s0=I r):yp pr Kh (Kf a0 a1) (Kg a0 a1) s0 r:=by
 unfold Ax at h
 repeat' first|(replace h:=jx h;obtain⟨d,g,h⟩:=h)|(replace h:=jz h;rcases h with⟨g,h⟩|⟨g,h⟩)|fail
 all_goals (cases h<;>(first|(refine zw ?_;simp only[go_sem,seval,Kh,Kf,zn,Kg, *]<;>rfl)|(refine yj ?_;simp only[go_sem,seval,Kh,Kf,zn,Kg, *]<;>rfl)))
theorem jrv (a0:qf)(a1:qj){s0:Int×(List UInt8)×Int×Int}{d}(h:bf (Ax a0 a1) s0=I d):X pr (.loop Kh) (Kf a0 a1 s0)=I (Kg a0 a1 d):=y7 (jqi a0 a1) (fun d hh=>by cases hh) h
def f136 (a0:qf)(a1:qj):Option Bool:=
 jw (bf (Ax a0 a1) (0,[],(-1),0)) fun d16=>
 cond (decide (d16.2.1=[])&&decide (d16.2.2.1=(-1))&&decide (d16.2.2.2=0))
  (I Ef)
  (cond (decide (a1.a≤d16.2.2.2))
   (I (decide (d16.2.2.2≤a1.b)))
   (I Ef))
theorem zgl {a0:qf}{a1:qj}{r}(h:f136 a0 a1=I r):jy pr (X pr) 136 [aU a0,aT a1]=I (.bool r,Ef):=by
 unfold f136 at h
 refine y6 tn ?_
 repeat' first|(replace h:=jx h;obtain⟨d,g,h⟩:=h;with_reducible first|(replace g:=jrv a0 a1 g;dsimp only[Kf,Kg,y9]at g h)|skip)|(replace h:=jz h;rcases h with⟨g,h⟩|⟨g,h⟩)|fail
 all_goals (cases h<;>(simp only[go_sem,seval,tn, *];exact⟨_,rfl⟩))
def f135 (a0:qj)(a1:qf):Option Bool:=
 jw (f136 a1 a0) fun v1=>
 I (!v1)
theorem zb5 (hp:j8){a0:qj}{a1:qf}{r}(h:f135 a0 a1=I r):zf pr (X pr) 135 [aT a0,.ah (aU a1)] hp=I (.bool r,Ef,hp):=by
 unfold f135 at h
 obtain⟨v1,h2,h⟩:=jx h
 have rM:jy pr (X pr) 136 [aU a1,aT a0]=I (.bool v1,Ef):=zgl h2
 have hr:(!v1)=r:=I.inj h
 subst hr
 rw[zd (show pr.bj 135=I tq from rfl) (by simp)]
 simp only[go_sem,seval,tq,rM]<;>rfl
def GV (a0:Option (List qj))(ar:qf)(s0:(Option (List qj))×Int×Bool):Option (((Option (List qj))×Int×Bool)⊕(((Option (List qj))×Bool×Int))):=
 cond (decide (s0.2.1<((a0.getD []).length:Int)))
  (jw (zo (a0.getD []) s0.2.1) fun v20=>
  jw (f135 v20 ar) fun ej=>
  cond ej
   (cond s0.2.2
    (jw (bh s0.1 [v20]) fun fC=>
    I (.inl (fC,j6 .i64 (s0.2.1+1),En)))
    (cond s0.1.isNone
     (jw (bh s0.1 [v20]) fun hO=>
     I (.inl (hO,j6 .i64 (s0.2.1+1),En)))
     (E0)))
   (I (.inl (s0.1,j6 .i64 (s0.2.1+1),s0.2.2))))
  (I (.inr (s0.1,s0.2.2,s0.2.1)))
def Ki (a0:Option (List qj))(ar:qf)(s0:(Option (List qj))×Int×Bool):qg:=⟨[(1,.fn (.func 135) [] [.ah (aU ar)],Ef),(5,sl 3 zz s0.1,s0.2.2),(8,sl 3 zz a0,Ef),(9,Lv a0,Ef),(10,Iv s0.2.1,Ef)],[]⟩
def Kj (a0:Option (List qj))(ar:qf)(d:((Option (List qj))×Bool×Int)):qo×qg:=(.exit 0,⟨[(1,.fn (.func 135) [] [.ah (aU ar)],Ef),(5,sl 3 zz d.1,d.2.1),(8,sl 3 zz a0,Ef),(9,Lv a0,Ef),(10,Iv d.2.2,Ef),(11,.bool Ef,Ef)],[]⟩)
theorem jsz (a0:Option (List qj))(ar:qf)(s0:(Option (List qj))×Int×Bool)(r)(h:GV a0 ar s0=I r):yp pr Kk (Ki a0 ar) (Kj a0 ar) s0 r:=by
 unfold GV at h
 repeat' first|(replace h:=jx h;obtain⟨d,g,h⟩:=h;with_reducible first|replace g:=zb5 [] g|replace g:=xt g|skip)|(replace h:=jz h;rcases h with⟨g,h⟩|⟨g,h⟩)|fail
 all_goals (cases h<;>(first|(refine zw ?_;simp only[go_sem,seval,Kk,Ki,zn,Kj, *]<;>rfl)|(refine yj ?_;simp only[go_sem,seval,Kk,Ki,zn,Kj, *]<;>rfl)))
theorem jr1 (a0:Option (List qj))(ar:qf){s0:(Option (List qj))×Int×Bool}{d}(h:bf (GV a0 ar) s0=I d):X pr (.loop Kk) (Ki a0 ar s0)=I (Kj a0 ar d):=y7 (jsz a0 ar) (fun d hh=>by cases hh) h
def f133 (a0:Option (List qj))(ar:qf):Option ((Option (List qj))×Bool):=
 jw (bf (GV a0 ar) (E0,0,Ef)) fun d31=>
 I (d31.1,d31.2.1)
theorem zc9 {a0:Option (List qj)}{ar:qf}{r}(h:f133 a0 ar=I r):jy pr (X pr) 133 [sl 3 zz a0,.fn (.func 135) [] [.ah (aU ar)]]=I (sl 3 zz r.1,r.2):=by
 unfold f133 at h
 refine fk tr ?_
 repeat' first|(replace h:=jx h;obtain⟨d,g,h⟩:=h;with_reducible first|(replace g:=jr1 a0 ar g;dsimp only[Ki,Kj,y9]at g h)|skip)|(replace h:=jz h;rcases h with⟨g,h⟩|⟨g,h⟩)|fail
 all_goals (cases h<;>(simp only[go_sem,seval,tr, *];exact⟨_,rfl⟩))
def f138 (a0:qj):Option (List UInt8):=
 I a0.k
theorem zdo (hp:j8){a0:qj}{r}(h:f138 a0=I r):zf pr (X pr) 138 [aT a0] hp=I (.str r,Ef,hp):=by
 unfold f138 at h
 have hr:a0.k=r:=I.inj h
 subst hr
 rw[zd (show pr.bj 138=I tu from rfl) (by simp)]
 simp only[go_sem,seval,tu]<;>rfl
def GX (a0:Option (List qj))(s0:(Option (List (List UInt8)))×Int×Bool):Option (((Option (List (List UInt8)))×Int×Bool)⊕(((Option (List (List UInt8)))×Bool×Int))):=
 cond (decide (s0.2.1<((a0.getD []).length:Int)))
  (jw (zo (a0.getD []) s0.2.1) fun fP=>
  jw (f138 fP) fun v20=>
  cond s0.2.2
   (jw (bh s0.1 [v20]) fun iY=>
   I (.inl (iY,j6 .i64 (s0.2.1+1),En)))
   (cond s0.1.isNone
    (jw (bh s0.1 [v20]) fun fC=>
    I (.inl (fC,j6 .i64 (s0.2.1+1),En)))
    (E0)))
  (I (.inr (s0.1,s0.2.2,s0.2.1)))
def Kl (a0:Option (List qj))(s0:(Option (List (List UInt8)))×Int×Bool):qg:=⟨[(1,.fn (.func 138) [] [],Ef),(5,sl 1 qae s0.1,s0.2.2),(8,sl 3 zz a0,Ef),(9,Lv a0,Ef),(10,Iv s0.2.1,Ef)],[]⟩
def Km (a0:Option (List qj))(d:((Option (List (List UInt8)))×Bool×Int)):qo×qg:=(.exit 0,⟨[(1,.fn (.func 138) [] [],Ef),(5,sl 1 qae d.1,d.2.1),(8,sl 3 zz a0,Ef),(9,Lv a0,Ef),(10,Iv d.2.2,Ef),(11,.bool Ef,Ef)],[]⟩)
theorem jpb (a0:Option (List qj))(s0:(Option (List (List UInt8)))×Int×Bool)(r)(h:GX a0 s0=I r):yp pr Kn (Kl a0) (Km a0) s0 r:=by
 unfold GX at h
 repeat' first|(replace h:=jx h;obtain⟨d,g,h⟩:=h;with_reducible first|replace g:=zdo [] g|replace g:=q63 g|skip)|(replace h:=jz h;rcases h with⟨g,h⟩|⟨g,h⟩)|fail
 all_goals (cases h<;>(first|(refine zw ?_;simp only[go_sem,seval,Kn,Kl,zn,Km, *]<;>rfl)|(refine yj ?_;simp only[go_sem,seval,Kn,Kl,zn,Km, *]<;>rfl)))
theorem jqc (a0:Option (List qj)){s0:(Option (List (List UInt8)))×Int×Bool}{d}(h:bf (GX a0) s0=I d):X pr (.loop Kn) (Kl a0 s0)=I (Km a0 d):=y7 (jpb a0) (fun d hh=>by cases hh) h
def f137 (a0:Option (List qj)):Option ((Option (List (List UInt8)))×Bool):=
 jw (bf (GX a0) (E0,0,Ef)) fun d28=>
 I (d28.1,d28.2.1)
theorem zdg {a0:Option (List qj)}{r}(h:f137 a0=I r):jy pr (X pr) 137 [sl 3 zz a0,.fn (.func 138) [] []]=I (sl 1 qae r.1,r.2):=by
 unfold f137 at h
 refine fk tv ?_
 repeat' first|(replace h:=jx h;obtain⟨d,g,h⟩:=h;with_reducible first|(replace g:=jqc a0 g;dsimp only[Kl,Km,y9]at g h)|skip)|(replace h:=jz h;rcases h with⟨g,h⟩|⟨g,h⟩)|fail
 all_goals (cases h<;>(simp only[go_sem,seval,tv, *];exact⟨_,rfl⟩))
def f74 (a0:qc)(a1:qf):Option ((Option (List (List UInt8)))×Bool):=
 jw (f134 a0 a1) fun v1=>
 jw (f133 v1.aw a1) fun v3=>
 jw (f137 v3.1) fun v5=>
 I (v5.1,v5.2)
theorem W74 {a0:qc}{a1:qf}{r}(h:f74 a0 a1=I r):jy pr (X pr) 74 [aR a0,aU a1]=I (sl 1 qae r.1,r.2):=by
 unfold f74 at h
 refine fk Ko ?_
 repeat' first|(replace h:=jx h;obtain⟨d,g,h⟩:=h;with_reducible first|replace g:=NY g|replace g:=zc9 g|replace g:=zdg g|skip)|(replace h:=jz h;rcases h with⟨g,h⟩|⟨g,h⟩)|fail
 all_goals (cases h<;>(simp only[go_sem,seval,Ko, *];exact⟨_,rfl⟩))
end Go.Z
namespace Go.Z
open Go Go.Abs Go.W
def f232 (a0:Option (List qk)):Option ((Option (List qk))×Bool):=
 cond a0.isNone
  (I (E0,Ef))
  (jw (bh (I []) (a0.getD [])) fun v2=>
  I (v2,En))
theorem zd2 {a0:Option (List qk)}{r}(h:f232 a0=I r):jy pr (X pr) 232 [sl 5 z7 a0]=I (sl 5 z7 r.1,r.2):=by
 unfold f232 at h
 refine fk tw ?_
 repeat' first|(replace h:=jx h;obtain⟨d,g,h⟩:=h)|(replace h:=jz h;rcases h with⟨g,h⟩|⟨g,h⟩)|fail
 all_goals (cases h<;>(simp only[go_sem,seval,tw,lG, *];exact⟨_,rfl⟩))
def f234 (a0:Option (List qi)):Option ((Option (List qi))×Bool):=
 cond a0.isNone
  (I (E0,Ef))
  (jw (bh (I []) (a0.getD [])) fun v2=>
  I (v2,En))
theorem zf2 {a0:Option (List qi)}{r}(h:f234 a0=I r):jy pr (X pr) 234 [sl 4 zr a0]=I (sl 4 zr r.1,r.2):=by
 unfold f234 at h
 refine fk tz ?_
 repeat' first|(replace h:=jx h;obtain⟨d,g,h⟩:=h)|(replace h:=jz h;rcases h with⟨g,h⟩|⟨g,h⟩)|fail
 all_goals (cases h<;>(simp only[go_sem,seval,tz,lG, *];exact⟨_,rfl⟩))
def f247 (a0:Option (List qf)):Option ((Option (List qf))×Bool):=
 cond a0.isNone
  (I (E0,Ef))
  (jw (bh (I []) (a0.getD [])) fun v2=>
  I (v2,En))
theorem j9n {a0:Option (List qf)}{r}(h:f247 a0=I r):jy pr (X pr) 247 [sl 8 bp a0]=I (sl 8 bp r.1,r.2):=by
 unfold f247 at h
 refine fk tA ?_
 repeat' first|(replace h:=jx h;obtain⟨d,g,h⟩:=h)|(replace h:=jz h;rcases h with⟨g,h⟩|⟨g,h⟩)|fail
 all_goals (cases h<;>(simp only[go_sem,seval,tA,lG, *];exact⟨_,rfl⟩))
def f244 (a0:Option (List qr)):Option ((Option (List qr))×Bool):=
 cond a0.isNone
  (I (E0,Ef))
  (jw (bh (I []) (a0.getD [])) fun v2=>
  I (v2,En))
theorem zd0 {a0:Option (List qr)}{r}(h:f244 a0=I r):jy pr (X pr) 244 [sl 2 dp a0]=I (sl 2 dp r.1,r.2):=by
 unfold f244 at h
 refine fk tB ?_
 repeat' first|(replace h:=jx h;obtain⟨d,g,h⟩:=h)|(replace h:=jz h;rcases h with⟨g,h⟩|⟨g,h⟩)|fail
 all_goals (cases h<;>(simp only[go_sem,seval,tB,lG, *];exact⟨_,rfl⟩))
def f245 (a0:Option (List qm)):Option ((Option (List qm))×Bool):=
 cond a0.isNone
  (I (E0,Ef))
  (jw (bh (I []) (a0.getD [])) fun v2=>
  I (v2,En))
theorem jtc {a0:Option (List qm)}{r}(h:f245 a0=I r):jy pr (X pr) 245 [sl 2 aS a0]=I (sl 2 aS r.1,r.2):=by
 unfold f245 at h
 refine fk tC ?_
 repeat' first|(replace h:=jx h;obtain⟨d,g,h⟩:=h)|(replace h:=jz h;rcases h with⟨g,h⟩|⟨g,h⟩)|fail
 all_goals (cases h<;>(simp only[go_sem,seval,tC,lG, *];exact⟨_,rfl⟩))
def f246 (a0:Option (List qj)):Option ((Option (List qj))×Bool):=
 cond a0.isNone
  (I (E0,Ef))
  (jw (bh (I []) (a0.getD [])) fun v2=>
  I (v2,En))
theorem jug {a0:Option (List qj)}{r}(h:f246 a0=I r):jy pr (X pr) 246 [sl 3 zz a0]=I (sl 3 zz r.1,r.2):=by
 unfold f246 at h
 refine fk tD ?_
 repeat' first|(replace h:=jx h;obtain⟨d,g,h⟩:=h)|(replace h:=jz h;rcases h with⟨g,h⟩|⟨g,h⟩)|fail
 all_goals (cases h<;>(simp only[go_sem,seval,tD,lG, *];exact⟨_,rfl⟩))
def f251 (a0:Option (List qj)):Option ((Option (List qj))×Bool):=
 cond a0.isNone
  (I (E0,Ef))
  (jw (bh (I []) (a0.getD [])) fun v2=>
  I (v2,En))
theorem zga {a0:Option (List qj)}{r}(h:f251 a0=I r):jy pr (X pr) 251 [sl 3 zz a0]=I (sl 3 zz r.1,r.2):=by
 unfold f251 at h
 refine fk tE ?_
 repeat' first|(replace h:=jx h;obtain⟨d,g,h⟩:=h)|(replace h:=jz h;rcases h with⟨g,h⟩|⟨g,h⟩)|fail
 all_goals (cases h<;>(simp only[go_sem,seval,tE,lG, *];exact⟨_,rfl⟩))
def f269 (a0:Option (List qm)):Option ((Option (List qm))×Bool):=
 cond a0.isNone
  (I (E0,Ef))
  (jw (bh (I []) (a0.getD [])) fun v2=>
  I (v2,En))
theorem zbk {a0:Option (List qm)}{r}(h:f269 a0=I r):jy pr (X pr) 269 [sl 2 aS a0]=I (sl 2 aS r.1,r.2):=by
 unfold f269 at h
 refine fk tF ?_
 repeat' first|(replace h:=jx h;obtain⟨d,g,h⟩:=h)|(replace h:=jz h;rcases h with⟨g,h⟩|⟨g,h⟩)|fail
 all_goals (cases h<;>(simp only[go_sem,seval,tF,lG, *];exact⟨_,rfl⟩))
def f164 (a0:Option (List qk))(a1:qk):Option (Option (List qk)):=
 jw (f232 a0) fun v1=>
 cond v1.2
  (jw (bh v1.1 [a1]) fun v4=>
  I v4)
  (cond v1.1.isNone
   (jw (bh v1.1 [a1]) fun v7=>
   I v7)
   (E0))
theorem zea {a0:Option (List qk)}{a1:qk}{r}(h:f164 a0 a1=I r):jy pr (X pr) 164 [sl 5 z7 a0,aL a1]=I (sl 5 z7 r,En):=by
 unfold f164 at h
 refine fk tG ?_
 repeat' first|(replace h:=jx h;obtain⟨d,g,h⟩:=h;with_reducible first|replace g:=zd2 g|replace g:=Ng g|skip)|(replace h:=jz h;rcases h with⟨g,h⟩|⟨g,h⟩)|fail
 all_goals (cases h<;>(simp only[go_sem,seval,tG, *];exact⟨_,rfl⟩))
def f166 (a0:Option (List qi))(a1:qi):Option (Option (List qi)):=
 jw (f234 a0) fun v1=>
 cond v1.2
  (jw (bh v1.1 [a1]) fun v4=>
  I v4)
  (cond v1.1.isNone
   (jw (bh v1.1 [a1]) fun v7=>
   I v7)
   (E0))
theorem zid {a0:Option (List qi)}{a1:qi}{r}(h:f166 a0 a1=I r):jy pr (X pr) 166 [sl 4 zr a0,aP a1]=I (sl 4 zr r,En):=by
 unfold f166 at h
 refine fk tH ?_
 repeat' first|(replace h:=jx h;obtain⟨d,g,h⟩:=h;with_reducible first|replace g:=zf2 g|replace g:=UY g|skip)|(replace h:=jz h;rcases h with⟨g,h⟩|⟨g,h⟩)|fail
 all_goals (cases h<;>(simp only[go_sem,seval,tH, *];exact⟨_,rfl⟩))
def f183 (a0:Option (List qf))(a1:qf):Option (Option (List qf)):=
 jw (f247 a0) fun v1=>
 cond v1.2
  (jw (bh v1.1 [a1]) fun v4=>
  I v4)
  (cond v1.1.isNone
   (jw (bh v1.1 [a1]) fun v7=>
   I v7)
   (E0))
theorem j94 {a0:Option (List qf)}{a1:qf}{r}(h:f183 a0 a1=I r):jy pr (X pr) 183 [sl 8 bp a0,aU a1]=I (sl 8 bp r,En):=by
 unfold f183 at h
 refine fk tI ?_
 repeat' first|(replace h:=jx h;obtain⟨d,g,h⟩:=h;with_reducible first|replace g:=j9n g|replace g:=UZ g|skip)|(replace h:=jz h;rcases h with⟨g,h⟩|⟨g,h⟩)|fail
 all_goals (cases h<;>(simp only[go_sem,seval,tI, *];exact⟨_,rfl⟩))
def f180 (a0:Option (List qr))(a1:qr):Option (Option (List qr)):=
 jw (f244 a0) fun v1=>
 cond v1.2
  (jw (bh v1.1 [a1]) fun v4=>
  I v4)
  (cond v1.1.isNone
   (jw (bh v1.1 [a1]) fun v7=>
   I v7)
   (E0))
theorem zff {a0:Option (List qr)}{a1:qr}{r}(h:f180 a0 a1=I r):jy pr (X pr) 180 [sl 2 dp a0,aD a1]=I (sl 2 dp r,En):=by
 unfold f180 at h
 refine fk tJ ?_
 repeat' first|(replace h:=jx h;obtain⟨d,g,h⟩:=h;with_reducible first|replace g:=zd0 g|replace g:=UX g|skip)|(replace h:=jz h;rcases h with⟨g,h⟩|⟨g,h⟩)|fail
 all_goals (cases h<;>(simp only[go_sem,seval,tJ, *];exact⟨_,rfl⟩))
def f239 (a0:Option (List qm))(a1:qm):Option (Option (List qm)):=
 jw (f245 a0) fun v1=>
 cond v1.2
  (jw (bh v1.1 [a1]) fun v4=>
  I v4)
  (cond v1.1.isNone
   (jw (bh v1.1 [a1]) fun v7=>
   I v7)
   (E0))
theorem zdf {a0:Option (List qm)}{a1:qm}{r}(h:f239 a0 a1=I r):jy pr (X pr) 239 [sl 2 aS a0,aN a1]=I (sl 2 aS r,En):=by
 unfold f239 at h
 refine fk tK ?_
 repeat' first|(replace h:=jx h;obtain⟨d,g,h⟩:=h;with_reducible first|replace g:=jtc g|replace g:=vH g|skip)|(replace h:=jz h;rcases h with⟨g,h⟩|⟨g,h⟩)|fail
 all_goals (cases h<;>(simp only[go_sem,seval,tK, *];exact⟨_,rfl⟩))
def f243 (a0:Option (List qj))(a1:qj):Option (Option (List qj)):=
 jw (f246 a0) fun v1=>
 cond v1.2
  (jw (bh v1.1 [a1]) fun v4=>
  I v4)
  (cond v1.1.isNone
   (jw (bh v1.1 [a1]) fun v7=>
   I v7)
   (E0))
theorem zdd {a0:Option (List qj)}{a1:qj}{r}(h:f243 a0 a1=I r):jy pr (X pr) 243 [sl 3 zz a0,aT a1]=I (sl 3 zz r,En):=by
 unfold f243 at h
 refine fk tL ?_
 repeat' first|(replace h:=jx h;obtain⟨d,g,h⟩:=h;with_reducible first|replace g:=jug g|replace g:=xt g|skip)|(replace h:=jz h;rcases h with⟨g,h⟩|⟨g,h⟩)|fail
 all_goals (cases h<;>(simp only[go_sem,seval,tL, *];exact⟨_,rfl⟩))
def f250 (a0:Option (List qm))(a1:qm):Option (Option (List qm)):=
 jw (f269 a0) fun v1=>
 cond v1.2
  (jw (bh v1.1 [a1]) fun v4=>
  I v4)
  (cond v1.1.isNone
   (jw (bh v1.1 [a1]) fun v7=>
   I v7)
   (E0))
theorem zd8 {a0:Option (List qm)}{a1:qm}{r}(h:f250 a0 a1=I r):jy pr (X pr) 250 [sl 2 aS a0,aN a1]=I (sl 2 aS r,En):=by
 unfold f250 at h
 refine fk tM ?_
 repeat' first|(replace h:=jx h;obtain⟨d,g,h⟩:=h;with_reducible first|replace g:=zbk g|replace g:=vH g|skip)|(replace h:=jz h;rcases h with⟨g,h⟩|⟨g,h⟩)|fail
 all_goals (cases h<;>(simp only[go_sem,seval,tM, *];exact⟨_,rfl⟩))
def f194 (a0:Option (List qj))(a1:qj):Option (Option (List qj)):=
 jw (f251 a0) fun v1=>
 cond v1.2
  (jw (bh v1.1 [a1]) fun v4=>
  I v4)
  (cond v1.1.isNone
   (jw (bh v1.1 [a1]) fun v7=>
   I v7)
   (E0))
theorem zef {a0:Option (List qj)}{a1:qj}{r}(h:f194 a0 a1=I r):jy pr (X pr) 194 [sl 3 zz a0,aT a1]=I (sl 3 zz r,En):=by
 unfold f194 at h
 refine fk tN ?_
 repeat' first|(replace h:=jx h;obtain⟨d,g,h⟩:=h;with_reducible first|replace g:=zga g|replace g:=xt g|skip)|(replace h:=jz h;rcases h with⟨g,h⟩|⟨g,h⟩)|fail
 all_goals (cases h<;>(simp only[go_sem,seval,tN, *];exact⟨_,rfl⟩))
def f181 (a0:qr):Option qr:=
 jw (f245 a0.ax) fun v1=>
 jw (f246 a0.aw) fun v3=>
 I (⟨v1.1,v3.1⟩)
theorem zf9 {a0:qr}{r}(h:f181 a0=I r):jy pr (X pr) 181 [aD a0]=I (aD r,Ef):=by
 unfold f181 at h
 refine y6 tO ?_
 repeat' first|(replace h:=jx h;obtain⟨d,g,h⟩:=h;with_reducible first|replace g:=jtc g|replace g:=jug g|skip)|(replace h:=jz h;rcases h with⟨g,h⟩|⟨g,h⟩)|fail
 all_goals (cases h<;>(simp only[go_sem,seval,tO, *];exact⟨_,rfl⟩))
end Go.Z
end
