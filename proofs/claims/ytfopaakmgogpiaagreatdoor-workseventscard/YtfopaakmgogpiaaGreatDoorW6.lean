/- Chapter 10. -/
import Derived.Test.YtfopaakmgogpiaaGreatDoorW1
import Derived.Test.YtfopaakmgogpiaaGreatDoorAbsL
import Derived.Test.YtfopaakmgogpiaaGreatDoorCA
set_option linter.unusedVariables false
set_option linter.unusedSimpArgs false
set_option maxRecDepth 100000
set_option maxHeartbeats 4000000
noncomputable section
namespace Go.Z
open Go Go.Abs Go.W
def f131 (a0:Int)(a1:qc)(a2:List UInt8):Option Bool:=
 jw (zo (a1.lots.getD []) a0) fun v1=>
 some (decide (v1.name=a2))
theorem zfk (hp:j8){a0:Int}{a1:qc}{a2:List UInt8}{r}(h:f131 a0 a1 a2=some r):zf pr (X pr) 131 [Iv a0,.vptr (aR a1),.vptr (.str a2)] hp=some (.bool r,false,hp):=by
 unfold f131 at h
 obtain⟨v1,h2,h⟩:=jx h
 have hr:decide (v1.name=a2)=r:=Option.some.inj h
 subst hr
 rw[zd (show pr.fns 131=some c131 from rfl) (by simp)]
 simp only[go_sem,seval,c131,ke h2]<;>rfl
def qob (a0:Int)(a1c0:qc)(a1c1:List UInt8)(s0:Int):Option (Int⊕(Int⊕Int)):=
 cond (decide (s0<a0))
  (jw (f131 s0 a1c0 a1c1) fun v10=>
  cond v10
   (some (.inr (.inl s0)))
   (some (.inl (j6 .i64 (s0+1)))))
  (some (.inr (.inr s0)))
def qku (a0:Int)(a1c0:qc)(a1c1:List UInt8)(s0:Int):qg:=⟨[(1,.fn (.func 131) [] [.vptr (aR a1c0),.vptr (.str a1c1)],false),(5,Iv (-1),false),(7,Iv a0,false),(8,Iv s0,false)],[]⟩
def qk5 (a0:Int)(a1c0:qc)(a1c1:List UInt8):Int⊕Int→qo×qg
 | .inl d=>(.exit 0,⟨[(5,Iv d,false)],[]⟩)
 | .inr d=>(.exit 0,⟨[(1,.fn (.func 131) [] [.vptr (aR a1c0),.vptr (.str a1c1)],false),(5,Iv (-1),false),(7,Iv a0,false),(8,Iv d,false),(9,.bool false,false)],[]⟩)
theorem jmb (a0:Int)(a1c0:qc)(a1c1:List UInt8)(s0:Int)(r)(h:qob a0 a1c0 a1c1 s0=some r):yq pr qed (qku a0 a1c0 a1c1) (qk5 a0 a1c0 a1c1) s0 r:=by
 unfold qob at h
 repeat' first|(replace h:=jx h;obtain⟨d,g,h⟩:=h;with_reducible first|replace g:=zfk [] g|skip)|(replace h:=jz h;rcases h with⟨g,h⟩|⟨g,h⟩)|fail
 all_goals (cases h<;>(first|(refine zw ?_;simp only[go_sem,seval,qed,qku,qk5,*]<;>rfl)|(refine yl ?_;simp only[go_sem,seval,qed,qku,qk5,*]<;>rfl)))
theorem jk7 (a0:Int)(a1c0:qc)(a1c1:List UInt8){s0:Int}{d}(h:itO (qob a0 a1c0 a1c1) s0=some d):X pr (.loop qed) (qku a0 a1c0 a1c1 s0)=some (qk5 a0 a1c0 a1c1 d):=y8 (jmb a0 a1c0 a1c1) (fun d=>by rcases d with d|d<;>(intro hh;cases hh)) h
def qxu (a0:Int)(a1c0:qc)(a1c1:List UInt8):Option Int:=
 jw (itO (qob a0 a1c0 a1c1) 0) fun d13=>match d13 with
  | .inl d15=>
   some d15
  | .inr d16=>
   some (-1)
theorem jwu {a0:Int}{a1c0:qc}{a1c1:List UInt8}{r}(h:qxu a0 a1c0 a1c1=some r):jy pr (X pr) 130 [Iv a0,.fn (.func 131) [] [.vptr (aR a1c0),.vptr (.str a1c1)]]=some (Iv r,false):=by
 unfold qxu at h
 refine y7 c130 ?_
 repeat' first|(replace h:=jx h;obtain⟨d,g,h⟩:=h;with_reducible first|(replace g:=jk7 a0 a1c0 a1c1 g;rcases d with d|d<;>dsimp only[qku,qk5,kc]at g h)|skip)|(replace h:=jz h;rcases h with⟨g,h⟩|⟨g,h⟩)|fail
 all_goals (cases h<;>(simp only[go_sem,seval,c130,*];exact⟨_,rfl⟩))
def f72 (a0:qc)(a1:List UInt8):Option Int:=
 jw (qxu ((a0.lots.getD []).length:Int) a0 a1) fun v1=>
 some v1
theorem W72 {a0:qc}{a1:List UInt8}{r}(h:f72 a0 a1=some r):jy pr (X pr) 72 [aR a0,.str a1]=some (Iv r,false):=by
 unfold f72 at h
 refine y7 c72 ?_
 repeat' first|(replace h:=jx h;obtain⟨d,g,h⟩:=h;with_reducible first|replace g:=jwu g|skip)|(replace h:=jz h;rcases h with⟨g,h⟩|⟨g,h⟩)|fail
 all_goals (cases h<;>(simp only[go_sem,seval,c72,*];exact⟨_,rfl⟩))
def f233 (a0:Int)(a1:qc)(a2:List UInt8):Option Bool:=
 jw (zo (a1.products.getD []) a0) fun v1=>
 some (decide (v1.name=a2))
theorem zap (hp:j8){a0:Int}{a1:qc}{a2:List UInt8}{r}(h:f233 a0 a1 a2=some r):zf pr (X pr) 233 [Iv a0,.vptr (aR a1),.vptr (.str a2)] hp=some (.bool r,false,hp):=by
 unfold f233 at h
 obtain⟨v1,h2,h⟩:=jx h
 have hr:decide (v1.name=a2)=r:=Option.some.inj h
 subst hr
 rw[zd (show pr.fns 233=some c233 from rfl) (by simp)]
 simp only[go_sem,seval,c233,ke h2]<;>rfl
def qnx (a0:Int)(a1c0:qc)(a1c1:List UInt8)(s0:Int):Option (Int⊕(Int⊕Int)):=
 cond (decide (s0<a0))
  (jw (f233 s0 a1c0 a1c1) fun v10=>
  cond v10
   (some (.inr (.inl s0)))
   (some (.inl (j6 .i64 (s0+1)))))
  (some (.inr (.inr s0)))
def qkz (a0:Int)(a1c0:qc)(a1c1:List UInt8)(s0:Int):qg:=⟨[(1,.fn (.func 233) [] [.vptr (aR a1c0),.vptr (.str a1c1)],false),(5,Iv (-1),false),(7,Iv a0,false),(8,Iv s0,false)],[]⟩
def qlf (a0:Int)(a1c0:qc)(a1c1:List UInt8):Int⊕Int→qo×qg
 | .inl d=>(.exit 0,⟨[(5,Iv d,false)],[]⟩)
 | .inr d=>(.exit 0,⟨[(1,.fn (.func 233) [] [.vptr (aR a1c0),.vptr (.str a1c1)],false),(5,Iv (-1),false),(7,Iv a0,false),(8,Iv d,false),(9,.bool false,false)],[]⟩)
theorem jks (a0:Int)(a1c0:qc)(a1c1:List UInt8)(s0:Int)(r)(h:qnx a0 a1c0 a1c1 s0=some r):yq pr qed (qkz a0 a1c0 a1c1) (qlf a0 a1c0 a1c1) s0 r:=by
 unfold qnx at h
 repeat' first|(replace h:=jx h;obtain⟨d,g,h⟩:=h;with_reducible first|replace g:=zap [] g|skip)|(replace h:=jz h;rcases h with⟨g,h⟩|⟨g,h⟩)|fail
 all_goals (cases h<;>(first|(refine zw ?_;simp only[go_sem,seval,qed,qkz,qlf,*]<;>rfl)|(refine yl ?_;simp only[go_sem,seval,qed,qkz,qlf,*]<;>rfl)))
theorem jmc (a0:Int)(a1c0:qc)(a1c1:List UInt8){s0:Int}{d}(h:itO (qnx a0 a1c0 a1c1) s0=some d):X pr (.loop qed) (qkz a0 a1c0 a1c1 s0)=some (qlf a0 a1c0 a1c1 d):=y8 (jks a0 a1c0 a1c1) (fun d=>by rcases d with d|d<;>(intro hh;cases hh)) h
def qxd (a0:Int)(a1c0:qc)(a1c1:List UInt8):Option Int:=
 jw (itO (qnx a0 a1c0 a1c1) 0) fun d13=>match d13 with
  | .inl d15=>
   some d15
  | .inr d16=>
   some (-1)
theorem j0g {a0:Int}{a1c0:qc}{a1c1:List UInt8}{r}(h:qxd a0 a1c0 a1c1=some r):jy pr (X pr) 130 [Iv a0,.fn (.func 233) [] [.vptr (aR a1c0),.vptr (.str a1c1)]]=some (Iv r,false):=by
 unfold qxd at h
 refine y7 c130 ?_
 repeat' first|(replace h:=jx h;obtain⟨d,g,h⟩:=h;with_reducible first|(replace g:=jmc a0 a1c0 a1c1 g;rcases d with d|d<;>dsimp only[qkz,qlf,kc]at g h)|skip)|(replace h:=jz h;rcases h with⟨g,h⟩|⟨g,h⟩)|fail
 all_goals (cases h<;>(simp only[go_sem,seval,c130,*];exact⟨_,rfl⟩))
def f165 (a0:qc)(a1:List UInt8):Option Int:=
 jw (qxd ((a0.products.getD []).length:Int) a0 a1) fun v1=>
 some v1
theorem qmc {a0:qc}{a1:List UInt8}{r}(h:f165 a0 a1=some r):jy pr (X pr) 165 [aR a0,.str a1]=some (Iv r,false):=by
 unfold f165 at h
 refine y7 c165 ?_
 repeat' first|(replace h:=jx h;obtain⟨d,g,h⟩:=h;with_reducible first|replace g:=j0g g|skip)|(replace h:=jz h;rcases h with⟨g,h⟩|⟨g,h⟩)|fail
 all_goals (cases h<;>(simp only[go_sem,seval,c165,*];exact⟨_,rfl⟩))
def f148 (a0:Int)(a1:qc)(a2:List UInt8):Option Bool:=
 jw (zo (a1.units.getD []) a0) fun v1=>
 some (decide (v1.name=a2))
theorem j9t (hp:j8){a0:Int}{a1:qc}{a2:List UInt8}{r}(h:f148 a0 a1 a2=some r):zf pr (X pr) 148 [Iv a0,.vptr (aR a1),.vptr (.str a2)] hp=some (.bool r,false,hp):=by
 unfold f148 at h
 obtain⟨v1,h2,h⟩:=jx h
 have hr:decide (v1.name=a2)=r:=Option.some.inj h
 subst hr
 rw[zd (show pr.fns 148=some c148 from rfl) (by simp)]
 simp only[go_sem,seval,c148,ke h2]<;>rfl
def qnt (a0:Int)(a1c0:qc)(a1c1:List UInt8)(s0:Int):Option (Int⊕(Int⊕Int)):=
 cond (decide (s0<a0))
  (jw (f148 s0 a1c0 a1c1) fun v10=>
  cond v10
   (some (.inr (.inl s0)))
   (some (.inl (j6 .i64 (s0+1)))))
  (some (.inr (.inr s0)))
def qk3 (a0:Int)(a1c0:qc)(a1c1:List UInt8)(s0:Int):qg:=⟨[(1,.fn (.func 148) [] [.vptr (aR a1c0),.vptr (.str a1c1)],false),(5,Iv (-1),false),(7,Iv a0,false),(8,Iv s0,false)],[]⟩
def qko (a0:Int)(a1c0:qc)(a1c1:List UInt8):Int⊕Int→qo×qg
 | .inl d=>(.exit 0,⟨[(5,Iv d,false)],[]⟩)
 | .inr d=>(.exit 0,⟨[(1,.fn (.func 148) [] [.vptr (aR a1c0),.vptr (.str a1c1)],false),(5,Iv (-1),false),(7,Iv a0,false),(8,Iv d,false),(9,.bool false,false)],[]⟩)
theorem jmz (a0:Int)(a1c0:qc)(a1c1:List UInt8)(s0:Int)(r)(h:qnt a0 a1c0 a1c1 s0=some r):yq pr qed (qk3 a0 a1c0 a1c1) (qko a0 a1c0 a1c1) s0 r:=by
 unfold qnt at h
 repeat' first|(replace h:=jx h;obtain⟨d,g,h⟩:=h;with_reducible first|replace g:=j9t [] g|skip)|(replace h:=jz h;rcases h with⟨g,h⟩|⟨g,h⟩)|fail
 all_goals (cases h<;>(first|(refine zw ?_;simp only[go_sem,seval,qed,qk3,qko,*]<;>rfl)|(refine yl ?_;simp only[go_sem,seval,qed,qk3,qko,*]<;>rfl)))
theorem jmg (a0:Int)(a1c0:qc)(a1c1:List UInt8){s0:Int}{d}(h:itO (qnt a0 a1c0 a1c1) s0=some d):X pr (.loop qed) (qk3 a0 a1c0 a1c1 s0)=some (qko a0 a1c0 a1c1 d):=y8 (jmz a0 a1c0 a1c1) (fun d=>by rcases d with d|d<;>(intro hh;cases hh)) h
def qxa (a0:Int)(a1c0:qc)(a1c1:List UInt8):Option Int:=
 jw (itO (qnt a0 a1c0 a1c1) 0) fun d13=>match d13 with
  | .inl d15=>
   some d15
  | .inr d16=>
   some (-1)
theorem j6e {a0:Int}{a1c0:qc}{a1c1:List UInt8}{r}(h:qxa a0 a1c0 a1c1=some r):jy pr (X pr) 130 [Iv a0,.fn (.func 148) [] [.vptr (aR a1c0),.vptr (.str a1c1)]]=some (Iv r,false):=by
 unfold qxa at h
 refine y7 c130 ?_
 repeat' first|(replace h:=jx h;obtain⟨d,g,h⟩:=h;with_reducible first|(replace g:=jmg a0 a1c0 a1c1 g;rcases d with d|d<;>dsimp only[qk3,qko,kc]at g h)|skip)|(replace h:=jz h;rcases h with⟨g,h⟩|⟨g,h⟩)|fail
 all_goals (cases h<;>(simp only[go_sem,seval,c130,*];exact⟨_,rfl⟩))
def f93 (a0:qc)(a1:List UInt8):Option Int:=
 jw (qxa ((a0.units.getD []).length:Int) a0 a1) fun v1=>
 some v1
theorem W93 {a0:qc}{a1:List UInt8}{r}(h:f93 a0 a1=some r):jy pr (X pr) 93 [aR a0,.str a1]=some (Iv r,false):=by
 unfold f93 at h
 refine y7 c93 ?_
 repeat' first|(replace h:=jx h;obtain⟨d,g,h⟩:=h;with_reducible first|replace g:=j6e g|skip)|(replace h:=jz h;rcases h with⟨g,h⟩|⟨g,h⟩)|fail
 all_goals (cases h<;>(simp only[go_sem,seval,c93,*];exact⟨_,rfl⟩))
def f202 (a0:qc)(a1:Int)(a2:List UInt8):Option Bool:=
 cond (decide (a1=108))
  (jw (f72 a0 a2) fun v2=>
  some (decide (0≤v2)))
  (cond (decide (a1=112))
   (jw (f165 a0 a2) fun v5=>
   some (decide (0≤v5)))
   (cond (decide (a1=117))
    (jw (f93 a0 a2) fun v8=>
    some (decide (0≤v8)))
    (some true)))
theorem jsg {a0:qc}{a1:Int}{a2:List UInt8}{r}(h:f202 a0 a1 a2=some r):jy pr (X pr) 202 [aR a0,.int .i32 a1,.str a2]=some (.bool r,false):=by
 unfold f202 at h
 refine y7 c202 ?_
 repeat' first|(replace h:=jx h;obtain⟨d,g,h⟩:=h;with_reducible first|replace g:=W72 g|replace g:=qmc g|replace g:=W93 g|skip)|(replace h:=jz h;rcases h with⟨g,h⟩|⟨g,h⟩)|fail
 all_goals (cases h<;>(simp only[go_sem,seval,c202,*];exact⟨_,rfl⟩))
def f182 (a0:qi):Option Int:=
 some ((a0.docs.getD []).length:Int)
theorem jnr {a0:qi}{r}(h:f182 a0=some r):jy pr (X pr) 182 [aP a0]=some (Iv r,false):=by
 unfold f182 at h
 have hr:((a0.docs.getD []).length:Int)=r:=Option.some.inj h
 subst hr
 have this:∃hh,zf pr (X pr) 182 [aP a0] []=some (Lv a0.docs,false,hh):=by
  rw[zd (show pr.fns 182=some c182 from rfl) (by simp)]
  simp only[go_sem,seval,c182]
  exact⟨_,rfl⟩
 obtain⟨hh,this⟩:=this
 exact kq rfl this (by first|rfl|simp only[go_sem,seval]) (by first|rfl|simp only[go_sem,seval])
def f140 (a0:qc)(a1:qf):Option Int:=
 jw (f165 a0 a1.product) fun v1=>
 jw (zo (a0.products.getD []) v1) fun v3=>
 jw (f182 v3) fun v5=>
 some v5
theorem juq {a0:qc}{a1:qf}{r}(h:f140 a0 a1=some r):jy pr (X pr) 140 [aR a0,aU a1]=some (Iv r,false):=by
 unfold f140 at h
 refine y7 c140 ?_
 repeat' first|(replace h:=jx h;obtain⟨d,g,h⟩:=h;with_reducible first|replace g:=qmc g|replace g:=jnr g|skip)|(replace h:=jz h;rcases h with⟨g,h⟩|⟨g,h⟩)|fail
 all_goals (cases h<;>(simp only[go_sem,seval,c140,zn,*];exact⟨_,rfl⟩))
def f134 (a0:qc)(a1:qf):Option qr:=
 jw (f165 a0 a1.product) fun v1=>
 jw (zo (a0.products.getD []) v1) fun v3=>
 jw (zo (v3.docs.getD []) (j6 .i64 (a1.version-1))) fun v5=>
 some v5
theorem q7g {a0:qc}{a1:qf}{r}(h:f134 a0 a1=some r):jy pr (X pr) 134 [aR a0,aU a1]=some (aD r,false):=by
 unfold f134 at h
 refine y7 c134 ?_
 repeat' first|(replace h:=jx h;obtain⟨d,g,h⟩:=h;with_reducible first|replace g:=qmc g|skip)|(replace h:=jz h;rcases h with⟨g,h⟩|⟨g,h⟩)|fail
 all_goals (cases h<;>(simp only[go_sem,seval,c134,zn,*];exact⟨_,rfl⟩))
def qk2 (a0:qf)(a1:qk)(s0:Int×(List UInt8)×Int×Int):Option ((Int×(List UInt8)×Int×Int)⊕((Int×(List UInt8)×Int×Int))):=
 cond (decide (s0.1<((a0.results.getD []).length:Int)))
  (jw (zo (a0.results.getD []) s0.1) fun v12=>
  cond (decide (v12.k=a1.k))
   (cond (decide (v12.a=a0.version))
    (some (.inl (j6 .i64 (s0.1+1),v12.k,v12.a,v12.b)))
    (some (.inl (j6 .i64 (s0.1+1),s0.2.1,s0.2.2.1,s0.2.2.2))))
   (some (.inl (j6 .i64 (s0.1+1),s0.2.1,s0.2.2.1,s0.2.2.2))))
  (some (.inr (s0.1,s0.2.1,s0.2.2.1,s0.2.2.2)))
def qns (a0:qf)(a1:qk)(s0:Int×(List UInt8)×Int×Int):qg:=⟨[(2,.vptr (aU a0),false),(3,.vptr (aT a1),false),(5,.ptr 0 0,false),(10,sl 3 zz a0.results,false),(11,Lv a0.results,false),(12,Iv s0.1,false)],[.cells [(.str s0.2.1,false),(Iv s0.2.2.1,false),(Iv s0.2.2.2,false)]]⟩
def qm3 (a0:qf)(a1:qk)(d:(Int×(List UInt8)×Int×Int)):qo×qg:=(.exit 0,⟨[(2,.vptr (aU a0),false),(3,.vptr (aT a1),false),(5,.ptr 0 0,false),(10,sl 3 zz a0.results,false),(11,Lv a0.results,false),(12,Iv d.1,false),(13,.bool false,false)],[.cells [(.str d.2.1,false),(Iv d.2.2.1,false),(Iv d.2.2.2,false)]]⟩)
theorem jqo (a0:qf)(a1:qk)(s0:Int×(List UInt8)×Int×Int)(r)(h:qk2 a0 a1 s0=some r):yq pr qsw (qns a0 a1) (qm3 a0 a1) s0 r:=by
 unfold qk2 at h
 repeat' first|(replace h:=jx h;obtain⟨d,g,h⟩:=h)|(replace h:=jz h;rcases h with⟨g,h⟩|⟨g,h⟩)|fail
 all_goals (cases h<;>(first|(refine zw ?_;simp only[go_sem,seval,qsw,qns,zn,qm3,*]<;>rfl)|(refine yl ?_;simp only[go_sem,seval,qsw,qns,zn,qm3,*]<;>rfl)))
theorem jsr (a0:qf)(a1:qk){s0:Int×(List UInt8)×Int×Int}{d}(h:itO (qk2 a0 a1) s0=some d):X pr (.loop qsw) (qns a0 a1 s0)=some (qm3 a0 a1 d):=y8 (jqo a0 a1) (fun d hh=>by cases hh) h
def f136 (a0:qf)(a1:qk):Option Bool:=
 jw (itO (qk2 a0 a1) (0,[],(-1),0)) fun d16=>
 cond (decide (d16.2.1=[])&&decide (d16.2.2.1=(-1))&&decide (d16.2.2.2=0))
  (some false)
  (cond (decide (a1.a≤d16.2.2.2))
   (some (decide (d16.2.2.2≤a1.b)))
   (some false))
theorem zbd {a0:qf}{a1:qk}{r}(h:f136 a0 a1=some r):jy pr (X pr) 136 [aU a0,aT a1]=some (.bool r,false):=by
 unfold f136 at h
 refine y7 c136 ?_
 repeat' first|(replace h:=jx h;obtain⟨d,g,h⟩:=h;with_reducible first|(replace g:=jsr a0 a1 g;dsimp only[qns,qm3,kc]at g h)|skip)|(replace h:=jz h;rcases h with⟨g,h⟩|⟨g,h⟩)|fail
 all_goals (cases h<;>(simp only[go_sem,seval,c136,*];exact⟨_,rfl⟩))
def f135 (a0:qk)(a1:qf):Option Bool:=
 jw (f136 a1 a0) fun v1=>
 some (!v1)
theorem zcj (hp:j8){a0:qk}{a1:qf}{r}(h:f135 a0 a1=some r):zf pr (X pr) 135 [aT a0,.vptr (aU a1)] hp=some (.bool r,false,hp):=by
 unfold f135 at h
 obtain⟨v1,h2,h⟩:=jx h
 have wh2:jy pr (X pr) 136 [aU a1,aT a0]=some (.bool v1,false):=zbd h2
 have hr:(!v1)=r:=Option.some.inj h
 subst hr
 rw[zd (show pr.fns 135=some c135 from rfl) (by simp)]
 simp only[go_sem,seval,c135,wh2]<;>rfl
def qsh (a0:Option (List qk))(a1c0:qf)(s0:(Option (List qk))×Int×Bool):Option (((Option (List qk))×Int×Bool)⊕(((Option (List qk))×Bool×Int))):=
 cond (decide (s0.2.1<((a0.getD []).length:Int)))
  (jw (zo (a0.getD []) s0.2.1) fun v20=>
  jw (f135 v20 a1c0) fun v22=>
  cond v22
   (cond s0.2.2
    (jw (apO s0.1 [v20]) fun v26=>
    some (.inl (v26,j6 .i64 (s0.2.1+1),true)))
    (cond s0.1.isNone
     (jw (apO s0.1 [v20]) fun v29=>
     some (.inl (v29,j6 .i64 (s0.2.1+1),true)))
     (none)))
   (some (.inl (s0.1,j6 .i64 (s0.2.1+1),s0.2.2))))
  (some (.inr (s0.1,s0.2.2,s0.2.1)))
def qmr (a0:Option (List qk))(a1c0:qf)(s0:(Option (List qk))×Int×Bool):qg:=⟨[(1,.fn (.func 135) [] [.vptr (aU a1c0)],false),(5,sl 3 zz s0.1,s0.2.2),(8,sl 3 zz a0,false),(9,Lv a0,false),(10,Iv s0.2.1,false)],[]⟩
def qm7 (a0:Option (List qk))(a1c0:qf)(d:((Option (List qk))×Bool×Int)):qo×qg:=(.exit 0,⟨[(1,.fn (.func 135) [] [.vptr (aU a1c0)],false),(5,sl 3 zz d.1,d.2.1),(8,sl 3 zz a0,false),(9,Lv a0,false),(10,Iv d.2.2,false),(11,.bool false,false)],[]⟩)
theorem jt1 (a0:Option (List qk))(a1c0:qf)(s0:(Option (List qk))×Int×Bool)(r)(h:qsh a0 a1c0 s0=some r):yq pr qrn (qmr a0 a1c0) (qm7 a0 a1c0) s0 r:=by
 unfold qsh at h
 repeat' first|(replace h:=jx h;obtain⟨d,g,h⟩:=h;with_reducible first|replace g:=zcj [] g|replace g:=qgz g|skip)|(replace h:=jz h;rcases h with⟨g,h⟩|⟨g,h⟩)|fail
 all_goals (cases h<;>(first|(refine zw ?_;simp only[go_sem,seval,qrn,qmr,zn,qm7,*]<;>rfl)|(refine yl ?_;simp only[go_sem,seval,qrn,qmr,zn,qm7,*]<;>rfl)))
theorem jou (a0:Option (List qk))(a1c0:qf){s0:(Option (List qk))×Int×Bool}{d}(h:itO (qsh a0 a1c0) s0=some d):X pr (.loop qrn) (qmr a0 a1c0 s0)=some (qm7 a0 a1c0 d):=y8 (jt1 a0 a1c0) (fun d hh=>by cases hh) h
def f133 (a0:Option (List qk))(a1c0:qf):Option ((Option (List qk))×Bool):=
 jw (itO (qsh a0 a1c0) (none,0,false)) fun d31=>
 some (d31.1,d31.2.1)
theorem zef {a0:Option (List qk)}{a1c0:qf}{r}(h:f133 a0 a1c0=some r):jy pr (X pr) 133 [sl 3 zz a0,.fn (.func 135) [] [.vptr (aU a1c0)]]=some (sl 3 zz r.1,r.2):=by
 unfold f133 at h
 refine qa5 c133 ?_
 repeat' first|(replace h:=jx h;obtain⟨d,g,h⟩:=h;with_reducible first|(replace g:=jou a0 a1c0 g;dsimp only[qmr,qm7,kc]at g h)|skip)|(replace h:=jz h;rcases h with⟨g,h⟩|⟨g,h⟩)|fail
 all_goals (cases h<;>(simp only[go_sem,seval,c133,*];exact⟨_,rfl⟩))
def f138 (a0:qk):Option (List UInt8):=
 some a0.k
theorem zam (hp:j8){a0:qk}{r}(h:f138 a0=some r):zf pr (X pr) 138 [aT a0] hp=some (.str r,false,hp):=by
 unfold f138 at h
 have hr:a0.k=r:=Option.some.inj h
 subst hr
 rw[zd (show pr.fns 138=some c138 from rfl) (by simp)]
 simp only[go_sem,seval,c138]<;>rfl
def qrd (a0:Option (List qk))(s0:(Option (List (List UInt8)))×Int×Bool):Option (((Option (List (List UInt8)))×Int×Bool)⊕(((Option (List (List UInt8)))×Bool×Int))):=
 cond (decide (s0.2.1<((a0.getD []).length:Int)))
  (jw (zo (a0.getD []) s0.2.1) fun v18=>
  jw (f138 v18) fun v20=>
  cond s0.2.2
   (jw (apO s0.1 [v20]) fun v23=>
   some (.inl (v23,j6 .i64 (s0.2.1+1),true)))
   (cond s0.1.isNone
    (jw (apO s0.1 [v20]) fun v26=>
    some (.inl (v26,j6 .i64 (s0.2.1+1),true)))
    (none)))
  (some (.inr (s0.1,s0.2.2,s0.2.1)))
def qm1 (a0:Option (List qk))(s0:(Option (List (List UInt8)))×Int×Bool):qg:=⟨[(1,.fn (.func 138) [] [],false),(5,sl 1 qae s0.1,s0.2.2),(8,sl 3 zz a0,false),(9,Lv a0,false),(10,Iv s0.2.1,false)],[]⟩
def qnp (a0:Option (List qk))(d:((Option (List (List UInt8)))×Bool×Int)):qo×qg:=(.exit 0,⟨[(1,.fn (.func 138) [] [],false),(5,sl 1 qae d.1,d.2.1),(8,sl 3 zz a0,false),(9,Lv a0,false),(10,Iv d.2.2,false),(11,.bool false,false)],[]⟩)
theorem jub (a0:Option (List qk))(s0:(Option (List (List UInt8)))×Int×Bool)(r)(h:qrd a0 s0=some r):yq pr qsu (qm1 a0) (qnp a0) s0 r:=by
 unfold qrd at h
 repeat' first|(replace h:=jx h;obtain⟨d,g,h⟩:=h;with_reducible first|replace g:=zam [] g|replace g:=q6d g|skip)|(replace h:=jz h;rcases h with⟨g,h⟩|⟨g,h⟩)|fail
 all_goals (cases h<;>(first|(refine zw ?_;simp only[go_sem,seval,qsu,qm1,zn,qnp,*]<;>rfl)|(refine yl ?_;simp only[go_sem,seval,qsu,qm1,zn,qnp,*]<;>rfl)))
theorem jtk (a0:Option (List qk)){s0:(Option (List (List UInt8)))×Int×Bool}{d}(h:itO (qrd a0) s0=some d):X pr (.loop qsu) (qm1 a0 s0)=some (qnp a0 d):=y8 (jub a0) (fun d hh=>by cases hh) h
def f137 (a0:Option (List qk)):Option ((Option (List (List UInt8)))×Bool):=
 jw (itO (qrd a0) (none,0,false)) fun d28=>
 some (d28.1,d28.2.1)
theorem zbx {a0:Option (List qk)}{r}(h:f137 a0=some r):jy pr (X pr) 137 [sl 3 zz a0,.fn (.func 138) [] []]=some (sl 1 qae r.1,r.2):=by
 unfold f137 at h
 refine qa5 c137 ?_
 repeat' first|(replace h:=jx h;obtain⟨d,g,h⟩:=h;with_reducible first|(replace g:=jtk a0 g;dsimp only[qm1,qnp,kc]at g h)|skip)|(replace h:=jz h;rcases h with⟨g,h⟩|⟨g,h⟩)|fail
 all_goals (cases h<;>(simp only[go_sem,seval,c137,*];exact⟨_,rfl⟩))
def f74 (a0:qc)(a1:qf):Option ((Option (List (List UInt8)))×Bool):=
 jw (f134 a0 a1) fun v1=>
 jw (f133 v1.tests a1) fun v3=>
 jw (f137 v3.1) fun v5=>
 some (v5.1,v5.2)
theorem W74 {a0:qc}{a1:qf}{r}(h:f74 a0 a1=some r):jy pr (X pr) 74 [aR a0,aU a1]=some (sl 1 qae r.1,r.2):=by
 unfold f74 at h
 refine qa5 c74 ?_
 repeat' first|(replace h:=jx h;obtain⟨d,g,h⟩:=h;with_reducible first|replace g:=q7g g|replace g:=zef g|replace g:=zbx g|skip)|(replace h:=jz h;rcases h with⟨g,h⟩|⟨g,h⟩)|fail
 all_goals (cases h<;>(simp only[go_sem,seval,c74,*];exact⟨_,rfl⟩))
end Go.Z
namespace Go.Z
open Go Go.Abs Go.W
def f232 (a0:Option (List qj)):Option ((Option (List qj))×Bool):=
 cond a0.isNone
  (some (none,false))
  (jw (apO (some []) (a0.getD [])) fun v2=>
  some (v2,true))
theorem zga {a0:Option (List qj)}{r}(h:f232 a0=some r):jy pr (X pr) 232 [sl 5 z7 a0]=some (sl 5 z7 r.1,r.2):=by
 unfold f232 at h
 refine qa5 c232 ?_
 repeat' first|(replace h:=jx h;obtain⟨d,g,h⟩:=h)|(replace h:=jz h;rcases h with⟨g,h⟩|⟨g,h⟩)|fail
 all_goals (cases h<;>(simp only[go_sem,seval,c232,qa0,*];exact⟨_,rfl⟩))
def f234 (a0:Option (List qi)):Option ((Option (List qi))×Bool):=
 cond a0.isNone
  (some (none,false))
  (jw (apO (some []) (a0.getD [])) fun v2=>
  some (v2,true))
theorem zdf {a0:Option (List qi)}{r}(h:f234 a0=some r):jy pr (X pr) 234 [sl 4 zr a0]=some (sl 4 zr r.1,r.2):=by
 unfold f234 at h
 refine qa5 c234 ?_
 repeat' first|(replace h:=jx h;obtain⟨d,g,h⟩:=h)|(replace h:=jz h;rcases h with⟨g,h⟩|⟨g,h⟩)|fail
 all_goals (cases h<;>(simp only[go_sem,seval,c234,qa0,*];exact⟨_,rfl⟩))
def f247 (a0:Option (List qf)):Option ((Option (List qf))×Bool):=
 cond a0.isNone
  (some (none,false))
  (jw (apO (some []) (a0.getD [])) fun v2=>
  some (v2,true))
theorem zek {a0:Option (List qf)}{r}(h:f247 a0=some r):jy pr (X pr) 247 [sl 8 vun a0]=some (sl 8 vun r.1,r.2):=by
 unfold f247 at h
 refine qa5 c247 ?_
 repeat' first|(replace h:=jx h;obtain⟨d,g,h⟩:=h)|(replace h:=jz h;rcases h with⟨g,h⟩|⟨g,h⟩)|fail
 all_goals (cases h<;>(simp only[go_sem,seval,c247,qa0,*];exact⟨_,rfl⟩))
def f244 (a0:Option (List qr)):Option ((Option (List qr))×Bool):=
 cond a0.isNone
  (some (none,false))
  (jw (apO (some []) (a0.getD [])) fun v2=>
  some (v2,true))
theorem zdd {a0:Option (List qr)}{r}(h:f244 a0=some r):jy pr (X pr) 244 [sl 2 qab a0]=some (sl 2 qab r.1,r.2):=by
 unfold f244 at h
 refine qa5 c244 ?_
 repeat' first|(replace h:=jx h;obtain⟨d,g,h⟩:=h)|(replace h:=jz h;rcases h with⟨g,h⟩|⟨g,h⟩)|fail
 all_goals (cases h<;>(simp only[go_sem,seval,c244,qa0,*];exact⟨_,rfl⟩))
def f245 (a0:Option (List qm)):Option ((Option (List qm))×Bool):=
 cond a0.isNone
  (some (none,false))
  (jw (apO (some []) (a0.getD [])) fun v2=>
  some (v2,true))
theorem joo {a0:Option (List qm)}{r}(h:f245 a0=some r):jy pr (X pr) 245 [sl 2 vsi a0]=some (sl 2 vsi r.1,r.2):=by
 unfold f245 at h
 refine qa5 c245 ?_
 repeat' first|(replace h:=jx h;obtain⟨d,g,h⟩:=h)|(replace h:=jz h;rcases h with⟨g,h⟩|⟨g,h⟩)|fail
 all_goals (cases h<;>(simp only[go_sem,seval,c245,qa0,*];exact⟨_,rfl⟩))
def f246 (a0:Option (List qk)):Option ((Option (List qk))×Bool):=
 cond a0.isNone
  (some (none,false))
  (jw (apO (some []) (a0.getD [])) fun v2=>
  some (v2,true))
theorem jnt {a0:Option (List qk)}{r}(h:f246 a0=some r):jy pr (X pr) 246 [sl 3 zz a0]=some (sl 3 zz r.1,r.2):=by
 unfold f246 at h
 refine qa5 c246 ?_
 repeat' first|(replace h:=jx h;obtain⟨d,g,h⟩:=h)|(replace h:=jz h;rcases h with⟨g,h⟩|⟨g,h⟩)|fail
 all_goals (cases h<;>(simp only[go_sem,seval,c246,qa0,*];exact⟨_,rfl⟩))
def f251 (a0:Option (List qk)):Option ((Option (List qk))×Bool):=
 cond a0.isNone
  (some (none,false))
  (jw (apO (some []) (a0.getD [])) fun v2=>
  some (v2,true))
theorem zgk {a0:Option (List qk)}{r}(h:f251 a0=some r):jy pr (X pr) 251 [sl 3 zz a0]=some (sl 3 zz r.1,r.2):=by
 unfold f251 at h
 refine qa5 c251 ?_
 repeat' first|(replace h:=jx h;obtain⟨d,g,h⟩:=h)|(replace h:=jz h;rcases h with⟨g,h⟩|⟨g,h⟩)|fail
 all_goals (cases h<;>(simp only[go_sem,seval,c251,qa0,*];exact⟨_,rfl⟩))
def f269 (a0:Option (List qm)):Option ((Option (List qm))×Bool):=
 cond a0.isNone
  (some (none,false))
  (jw (apO (some []) (a0.getD [])) fun v2=>
  some (v2,true))
theorem zeb {a0:Option (List qm)}{r}(h:f269 a0=some r):jy pr (X pr) 269 [sl 2 vsi a0]=some (sl 2 vsi r.1,r.2):=by
 unfold f269 at h
 refine qa5 c269 ?_
 repeat' first|(replace h:=jx h;obtain⟨d,g,h⟩:=h)|(replace h:=jz h;rcases h with⟨g,h⟩|⟨g,h⟩)|fail
 all_goals (cases h<;>(simp only[go_sem,seval,c269,qa0,*];exact⟨_,rfl⟩))
def f164 (a0:Option (List qj))(a1:qj):Option (Option (List qj)):=
 jw (f232 a0) fun v1=>
 cond v1.2
  (jw (apO v1.1 [a1]) fun v4=>
  some v4)
  (cond v1.1.isNone
   (jw (apO v1.1 [a1]) fun v7=>
   some v7)
   (none))
theorem zf0 {a0:Option (List qj)}{a1:qj}{r}(h:f164 a0 a1=some r):jy pr (X pr) 164 [sl 5 z7 a0,aL a1]=some (sl 5 z7 r,true):=by
 unfold f164 at h
 refine qa5 c164 ?_
 repeat' first|(replace h:=jx h;obtain⟨d,g,h⟩:=h;with_reducible first|replace g:=zga g|replace g:=qs8 g|skip)|(replace h:=jz h;rcases h with⟨g,h⟩|⟨g,h⟩)|fail
 all_goals (cases h<;>(simp only[go_sem,seval,c164,*];exact⟨_,rfl⟩))
def f166 (a0:Option (List qi))(a1:qi):Option (Option (List qi)):=
 jw (f234 a0) fun v1=>
 cond v1.2
  (jw (apO v1.1 [a1]) fun v4=>
  some v4)
  (cond v1.1.isNone
   (jw (apO v1.1 [a1]) fun v7=>
   some v7)
   (none))
theorem zej {a0:Option (List qi)}{a1:qi}{r}(h:f166 a0 a1=some r):jy pr (X pr) 166 [sl 4 zr a0,aP a1]=some (sl 4 zr r,true):=by
 unfold f166 at h
 refine qa5 c166 ?_
 repeat' first|(replace h:=jx h;obtain⟨d,g,h⟩:=h;with_reducible first|replace g:=zdf g|replace g:=quj g|skip)|(replace h:=jz h;rcases h with⟨g,h⟩|⟨g,h⟩)|fail
 all_goals (cases h<;>(simp only[go_sem,seval,c166,*];exact⟨_,rfl⟩))
def f183 (a0:Option (List qf))(a1:qf):Option (Option (List qf)):=
 jw (f247 a0) fun v1=>
 cond v1.2
  (jw (apO v1.1 [a1]) fun v4=>
  some v4)
  (cond v1.1.isNone
   (jw (apO v1.1 [a1]) fun v7=>
   some v7)
   (none))
theorem zb9 {a0:Option (List qf)}{a1:qf}{r}(h:f183 a0 a1=some r):jy pr (X pr) 183 [sl 8 vun a0,aU a1]=some (sl 8 vun r,true):=by
 unfold f183 at h
 refine qa5 c183 ?_
 repeat' first|(replace h:=jx h;obtain⟨d,g,h⟩:=h;with_reducible first|replace g:=zek g|replace g:=q2k g|skip)|(replace h:=jz h;rcases h with⟨g,h⟩|⟨g,h⟩)|fail
 all_goals (cases h<;>(simp only[go_sem,seval,c183,*];exact⟨_,rfl⟩))
def f180 (a0:Option (List qr))(a1:qr):Option (Option (List qr)):=
 jw (f244 a0) fun v1=>
 cond v1.2
  (jw (apO v1.1 [a1]) fun v4=>
  some v4)
  (cond v1.1.isNone
   (jw (apO v1.1 [a1]) fun v7=>
   some v7)
   (none))
theorem zc0 {a0:Option (List qr)}{a1:qr}{r}(h:f180 a0 a1=some r):jy pr (X pr) 180 [sl 2 qab a0,aD a1]=some (sl 2 qab r,true):=by
 unfold f180 at h
 refine qa5 c180 ?_
 repeat' first|(replace h:=jx h;obtain⟨d,g,h⟩:=h;with_reducible first|replace g:=zdd g|replace g:=qyu g|skip)|(replace h:=jz h;rcases h with⟨g,h⟩|⟨g,h⟩)|fail
 all_goals (cases h<;>(simp only[go_sem,seval,c180,*];exact⟨_,rfl⟩))
def f239 (a0:Option (List qm))(a1:qm):Option (Option (List qm)):=
 jw (f245 a0) fun v1=>
 cond v1.2
  (jw (apO v1.1 [a1]) fun v4=>
  some v4)
  (cond v1.1.isNone
   (jw (apO v1.1 [a1]) fun v7=>
   some v7)
   (none))
theorem j9u {a0:Option (List qm)}{a1:qm}{r}(h:f239 a0 a1=some r):jy pr (X pr) 239 [sl 2 vsi a0,aN a1]=some (sl 2 vsi r,true):=by
 unfold f239 at h
 refine qa5 c239 ?_
 repeat' first|(replace h:=jx h;obtain⟨d,g,h⟩:=h;with_reducible first|replace g:=joo g|replace g:=qho g|skip)|(replace h:=jz h;rcases h with⟨g,h⟩|⟨g,h⟩)|fail
 all_goals (cases h<;>(simp only[go_sem,seval,c239,*];exact⟨_,rfl⟩))
def f243 (a0:Option (List qk))(a1:qk):Option (Option (List qk)):=
 jw (f246 a0) fun v1=>
 cond v1.2
  (jw (apO v1.1 [a1]) fun v4=>
  some v4)
  (cond v1.1.isNone
   (jw (apO v1.1 [a1]) fun v7=>
   some v7)
   (none))
theorem zbh {a0:Option (List qk)}{a1:qk}{r}(h:f243 a0 a1=some r):jy pr (X pr) 243 [sl 3 zz a0,aT a1]=some (sl 3 zz r,true):=by
 unfold f243 at h
 refine qa5 c243 ?_
 repeat' first|(replace h:=jx h;obtain⟨d,g,h⟩:=h;with_reducible first|replace g:=jnt g|replace g:=qgz g|skip)|(replace h:=jz h;rcases h with⟨g,h⟩|⟨g,h⟩)|fail
 all_goals (cases h<;>(simp only[go_sem,seval,c243,*];exact⟨_,rfl⟩))
def f250 (a0:Option (List qm))(a1:qm):Option (Option (List qm)):=
 jw (f269 a0) fun v1=>
 cond v1.2
  (jw (apO v1.1 [a1]) fun v4=>
  some v4)
  (cond v1.1.isNone
   (jw (apO v1.1 [a1]) fun v7=>
   some v7)
   (none))
theorem zf3 {a0:Option (List qm)}{a1:qm}{r}(h:f250 a0 a1=some r):jy pr (X pr) 250 [sl 2 vsi a0,aN a1]=some (sl 2 vsi r,true):=by
 unfold f250 at h
 refine qa5 c250 ?_
 repeat' first|(replace h:=jx h;obtain⟨d,g,h⟩:=h;with_reducible first|replace g:=zeb g|replace g:=qho g|skip)|(replace h:=jz h;rcases h with⟨g,h⟩|⟨g,h⟩)|fail
 all_goals (cases h<;>(simp only[go_sem,seval,c250,*];exact⟨_,rfl⟩))
def f194 (a0:Option (List qk))(a1:qk):Option (Option (List qk)):=
 jw (f251 a0) fun v1=>
 cond v1.2
  (jw (apO v1.1 [a1]) fun v4=>
  some v4)
  (cond v1.1.isNone
   (jw (apO v1.1 [a1]) fun v7=>
   some v7)
   (none))
theorem zdx {a0:Option (List qk)}{a1:qk}{r}(h:f194 a0 a1=some r):jy pr (X pr) 194 [sl 3 zz a0,aT a1]=some (sl 3 zz r,true):=by
 unfold f194 at h
 refine qa5 c194 ?_
 repeat' first|(replace h:=jx h;obtain⟨d,g,h⟩:=h;with_reducible first|replace g:=zgk g|replace g:=qgz g|skip)|(replace h:=jz h;rcases h with⟨g,h⟩|⟨g,h⟩)|fail
 all_goals (cases h<;>(simp only[go_sem,seval,c194,*];exact⟨_,rfl⟩))
def f181 (a0:qr):Option qr:=
 jw (f245 a0.needs) fun v1=>
 jw (f246 a0.tests) fun v3=>
 some (⟨v1.1,v3.1⟩)
theorem ze2 {a0:qr}{r}(h:f181 a0=some r):jy pr (X pr) 181 [aD a0]=some (aD r,false):=by
 unfold f181 at h
 refine y7 c181 ?_
 repeat' first|(replace h:=jx h;obtain⟨d,g,h⟩:=h;with_reducible first|replace g:=joo g|replace g:=jnt g|skip)|(replace h:=jz h;rcases h with⟨g,h⟩|⟨g,h⟩)|fail
 all_goals (cases h<;>(simp only[go_sem,seval,c181,*];exact⟨_,rfl⟩))
end Go.Z
end
