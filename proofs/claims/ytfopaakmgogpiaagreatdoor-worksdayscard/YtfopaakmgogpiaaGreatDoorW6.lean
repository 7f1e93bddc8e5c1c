/- Chapter 10. -/
import Derived.Test.YtfopaakmgogpiaaGreatDoorW1
set_option maxRecDepth 100000
set_option maxHeartbeats 4000000
noncomputable section
open Option renaming some→I,none→E2
open Bool renaming false→En,true→E1
namespace Go.Z
open Go Go.Abs Go.W
def f131 (a0:Int)(a1:qc)(a2:List UInt8):Option Bool:=
 jx (zp (a1.au.getD []) a0) fun v1=>
 I (decide (v1.name=a2))
theorem zes (hp:j8){a0:Int}{a1:qc}{a2:List UInt8}{r}(h:f131 a0 a1 a2=I r):zg pr (X pr) 131 [Iv a0,.ah (aR a1),.ah (.str a2)] hp=I (.bool r,En,hp):=by
 unfold f131 at h
 obtain⟨v1,h2,h⟩:=jy h
 have hr:decide (v1.name=a2)=r:=I.inj h
 subst hr
 rw[zh (show pr.bL 131=I sV from rfl) (by simp)]
 simp only[go_sem,seval,sV,ko h2]<;>rfl
def Gv (a0:Int)(aq:qc)(bI:List UInt8)(s0:Int):Option (Int⊕(Int⊕Int)):=
 cond (decide (s0<a0))
  (jx (f131 s0 aq bI) fun v10=>
  cond v10
   (I (.inr (.inl s0)))
   (I (.inl (j9 .i64 (s0+1)))))
  (I (.inr (.inr s0)))
def J9 (a0:Int)(aq:qc)(bI:List UInt8)(s0:Int):qg:=⟨[(1,.fn (.func 131) [] [.ah (aR aq),.ah (.str bI)],En),(5,Iv (-1),En),(7,Iv a0,En),(8,Iv s0,En)],[]⟩
def Ka (a0:Int)(aq:qc)(bI:List UInt8):Int⊕Int→qo×qg
 | .inl d=>(.exit 0,⟨[(5,Iv d,En)],[]⟩)
 | .inr d=>(.exit 0,⟨[(1,.fn (.func 131) [] [.ah (aR aq),.ah (.str bI)],En),(5,Iv (-1),En),(7,Iv a0,En),(8,Iv d,En),(9,.bool En,En)],[]⟩)
theorem jkw (a0:Int)(aq:qc)(bI:List UInt8)(s0:Int)(r)(h:Gv a0 aq bI s0=I r):yo pr oC (J9 a0 aq bI) (Ka a0 aq bI) s0 r:=by
 unfold Gv at h
 repeat' first|(replace h:=jy h;obtain⟨d,g,h⟩:=h;with_reducible first|replace g:=zes [] g|skip)|(replace h:=j6 h;rcases h with⟨g,h⟩|⟨g,h⟩)|fail
 all_goals (cases h<;>(first|(refine zy ?_;simp only[go_sem,seval,oC,J9,Ka, *]<;>rfl)|(refine yh ?_;simp only[go_sem,seval,oC,J9,Ka, *]<;>rfl)))
theorem jm7 (a0:Int)(aq:qc)(bI:List UInt8){s0:Int}{d}(h:bf (Gv a0 aq bI) s0=I d):X pr (.loop oC) (J9 a0 aq bI s0)=I (Ka a0 aq bI d):=yz (jkw a0 aq bI) (fun d=>by rcases d with d|d<;>(intro hh;cases hh)) h
def Gu (a0:Int)(aq:qc)(bI:List UInt8):Option Int:=
 jx (bf (Gv a0 aq bI) 0) fun d13=>match d13 with
  | .inl d15=>
   I d15
  | .inr d16=>
   I (-1)
theorem j52 {a0:Int}{aq:qc}{bI:List UInt8}{r}(h:Gu a0 aq bI=I r):jz pr (X pr) 130 [Iv a0,.fn (.func 131) [] [.ah (aR aq),.ah (.str bI)]]=I (Iv r,En):=by
 unfold Gu at h
 refine y7 kE ?_
 repeat' first|(replace h:=jy h;obtain⟨d,g,h⟩:=h;with_reducible first|(replace g:=jm7 a0 aq bI g;rcases d with d|d<;>dsimp only[J9,Ka,y8]at g h)|skip)|(replace h:=j6 h;rcases h with⟨g,h⟩|⟨g,h⟩)|fail
 all_goals (cases h<;>(simp only[go_sem,seval,kE, *];exact⟨_,rfl⟩))
def f72 (a0:qc)(a1:List UInt8):Option Int:=
 jx (Gu ((a0.au.getD []).length:Int) a0 a1) fun v1=>
 I v1
theorem D9 {a0:qc}{a1:List UInt8}{r}(h:f72 a0 a1=I r):jz pr (X pr) 72 [aR a0,.str a1]=I (Iv r,En):=by
 unfold f72 at h
 refine y7 Kb ?_
 repeat' first|(replace h:=jy h;obtain⟨d,g,h⟩:=h;with_reducible first|replace g:=j52 g|skip)|(replace h:=j6 h;rcases h with⟨g,h⟩|⟨g,h⟩)|fail
 all_goals (cases h<;>(simp only[go_sem,seval,Kb, *];exact⟨_,rfl⟩))
def f233 (a0:Int)(a1:qc)(a2:List UInt8):Option Bool:=
 jx (zp (a1.ae.getD []) a0) fun v1=>
 I (decide (v1.name=a2))
theorem zg8 (hp:j8){a0:Int}{a1:qc}{a2:List UInt8}{r}(h:f233 a0 a1 a2=I r):zg pr (X pr) 233 [Iv a0,.ah (aR a1),.ah (.str a2)] hp=I (.bool r,En,hp):=by
 unfold f233 at h
 obtain⟨v1,h2,h⟩:=jy h
 have hr:decide (v1.name=a2)=r:=I.inj h
 subst hr
 rw[zh (show pr.bL 233=I sW from rfl) (by simp)]
 simp only[go_sem,seval,sW,ko h2]<;>rfl
def Gx (a0:Int)(aq:qc)(bI:List UInt8)(s0:Int):Option (Int⊕(Int⊕Int)):=
 cond (decide (s0<a0))
  (jx (f233 s0 aq bI) fun v10=>
  cond v10
   (I (.inr (.inl s0)))
   (I (.inl (j9 .i64 (s0+1)))))
  (I (.inr (.inr s0)))
def Kc (a0:Int)(aq:qc)(bI:List UInt8)(s0:Int):qg:=⟨[(1,.fn (.func 233) [] [.ah (aR aq),.ah (.str bI)],En),(5,Iv (-1),En),(7,Iv a0,En),(8,Iv s0,En)],[]⟩
def Ke (a0:Int)(aq:qc)(bI:List UInt8):Int⊕Int→qo×qg
 | .inl d=>(.exit 0,⟨[(5,Iv d,En)],[]⟩)
 | .inr d=>(.exit 0,⟨[(1,.fn (.func 233) [] [.ah (aR aq),.ah (.str bI)],En),(5,Iv (-1),En),(7,Iv a0,En),(8,Iv d,En),(9,.bool En,En)],[]⟩)
theorem jla (a0:Int)(aq:qc)(bI:List UInt8)(s0:Int)(r)(h:Gx a0 aq bI s0=I r):yo pr oC (Kc a0 aq bI) (Ke a0 aq bI) s0 r:=by
 unfold Gx at h
 repeat' first|(replace h:=jy h;obtain⟨d,g,h⟩:=h;with_reducible first|replace g:=zg8 [] g|skip)|(replace h:=j6 h;rcases h with⟨g,h⟩|⟨g,h⟩)|fail
 all_goals (cases h<;>(first|(refine zy ?_;simp only[go_sem,seval,oC,Kc,Ke, *]<;>rfl)|(refine yh ?_;simp only[go_sem,seval,oC,Kc,Ke, *]<;>rfl)))
theorem jmt (a0:Int)(aq:qc)(bI:List UInt8){s0:Int}{d}(h:bf (Gx a0 aq bI) s0=I d):X pr (.loop oC) (Kc a0 aq bI s0)=I (Ke a0 aq bI d):=yz (jla a0 aq bI) (fun d=>by rcases d with d|d<;>(intro hh;cases hh)) h
def Gw (a0:Int)(aq:qc)(bI:List UInt8):Option Int:=
 jx (bf (Gx a0 aq bI) 0) fun d13=>match d13 with
  | .inl d15=>
   I d15
  | .inr d16=>
   I (-1)
theorem j2m {a0:Int}{aq:qc}{bI:List UInt8}{r}(h:Gw a0 aq bI=I r):jz pr (X pr) 130 [Iv a0,.fn (.func 233) [] [.ah (aR aq),.ah (.str bI)]]=I (Iv r,En):=by
 unfold Gw at h
 refine y7 kE ?_
 repeat' first|(replace h:=jy h;obtain⟨d,g,h⟩:=h;with_reducible first|(replace g:=jmt a0 aq bI g;rcases d with d|d<;>dsimp only[Kc,Ke,y8]at g h)|skip)|(replace h:=j6 h;rcases h with⟨g,h⟩|⟨g,h⟩)|fail
 all_goals (cases h<;>(simp only[go_sem,seval,kE, *];exact⟨_,rfl⟩))
def f165 (a0:qc)(a1:List UInt8):Option Int:=
 jx (Gw ((a0.ae.getD []).length:Int) a0 a1) fun v1=>
 I v1
theorem uQ {a0:qc}{a1:List UInt8}{r}(h:f165 a0 a1=I r):jz pr (X pr) 165 [aR a0,.str a1]=I (Iv r,En):=by
 unfold f165 at h
 refine y7 sX ?_
 repeat' first|(replace h:=jy h;obtain⟨d,g,h⟩:=h;with_reducible first|replace g:=j2m g|skip)|(replace h:=j6 h;rcases h with⟨g,h⟩|⟨g,h⟩)|fail
 all_goals (cases h<;>(simp only[go_sem,seval,sX, *];exact⟨_,rfl⟩))
def f148 (a0:Int)(a1:qc)(a2:List UInt8):Option Bool:=
 jx (zp (a1.units.getD []) a0) fun v1=>
 I (decide (v1.name=a2))
theorem zg0 (hp:j8){a0:Int}{a1:qc}{a2:List UInt8}{r}(h:f148 a0 a1 a2=I r):zg pr (X pr) 148 [Iv a0,.ah (aR a1),.ah (.str a2)] hp=I (.bool r,En,hp):=by
 unfold f148 at h
 obtain⟨v1,h2,h⟩:=jy h
 have hr:decide (v1.name=a2)=r:=I.inj h
 subst hr
 rw[zh (show pr.bL 148=I sY from rfl) (by simp)]
 simp only[go_sem,seval,sY,ko h2]<;>rfl
def Gz (a0:Int)(aq:qc)(bI:List UInt8)(s0:Int):Option (Int⊕(Int⊕Int)):=
 cond (decide (s0<a0))
  (jx (f148 s0 aq bI) fun v10=>
  cond v10
   (I (.inr (.inl s0)))
   (I (.inl (j9 .i64 (s0+1)))))
  (I (.inr (.inr s0)))
def Kf (a0:Int)(aq:qc)(bI:List UInt8)(s0:Int):qg:=⟨[(1,.fn (.func 148) [] [.ah (aR aq),.ah (.str bI)],En),(5,Iv (-1),En),(7,Iv a0,En),(8,Iv s0,En)],[]⟩
def Kg (a0:Int)(aq:qc)(bI:List UInt8):Int⊕Int→qo×qg
 | .inl d=>(.exit 0,⟨[(5,Iv d,En)],[]⟩)
 | .inr d=>(.exit 0,⟨[(1,.fn (.func 148) [] [.ah (aR aq),.ah (.str bI)],En),(5,Iv (-1),En),(7,Iv a0,En),(8,Iv d,En),(9,.bool En,En)],[]⟩)
theorem jmh (a0:Int)(aq:qc)(bI:List UInt8)(s0:Int)(r)(h:Gz a0 aq bI s0=I r):yo pr oC (Kf a0 aq bI) (Kg a0 aq bI) s0 r:=by
 unfold Gz at h
 repeat' first|(replace h:=jy h;obtain⟨d,g,h⟩:=h;with_reducible first|replace g:=zg0 [] g|skip)|(replace h:=j6 h;rcases h with⟨g,h⟩|⟨g,h⟩)|fail
 all_goals (cases h<;>(first|(refine zy ?_;simp only[go_sem,seval,oC,Kf,Kg, *]<;>rfl)|(refine yh ?_;simp only[go_sem,seval,oC,Kf,Kg, *]<;>rfl)))
theorem jlc (a0:Int)(aq:qc)(bI:List UInt8){s0:Int}{d}(h:bf (Gz a0 aq bI) s0=I d):X pr (.loop oC) (Kf a0 aq bI s0)=I (Kg a0 aq bI d):=yz (jmh a0 aq bI) (fun d=>by rcases d with d|d<;>(intro hh;cases hh)) h
def Gy (a0:Int)(aq:qc)(bI:List UInt8):Option Int:=
 jx (bf (Gz a0 aq bI) 0) fun d13=>match d13 with
  | .inl d15=>
   I d15
  | .inr d16=>
   I (-1)
theorem j3y {a0:Int}{aq:qc}{bI:List UInt8}{r}(h:Gy a0 aq bI=I r):jz pr (X pr) 130 [Iv a0,.fn (.func 148) [] [.ah (aR aq),.ah (.str bI)]]=I (Iv r,En):=by
 unfold Gy at h
 refine y7 kE ?_
 repeat' first|(replace h:=jy h;obtain⟨d,g,h⟩:=h;with_reducible first|(replace g:=jlc a0 aq bI g;rcases d with d|d<;>dsimp only[Kf,Kg,y8]at g h)|skip)|(replace h:=j6 h;rcases h with⟨g,h⟩|⟨g,h⟩)|fail
 all_goals (cases h<;>(simp only[go_sem,seval,kE, *];exact⟨_,rfl⟩))
def f93 (a0:qc)(a1:List UInt8):Option Int:=
 jx (Gy ((a0.units.getD []).length:Int) a0 a1) fun v1=>
 I v1
theorem xS {a0:qc}{a1:List UInt8}{r}(h:f93 a0 a1=I r):jz pr (X pr) 93 [aR a0,.str a1]=I (Iv r,En):=by
 unfold f93 at h
 refine y7 Kh ?_
 repeat' first|(replace h:=jy h;obtain⟨d,g,h⟩:=h;with_reducible first|replace g:=j3y g|skip)|(replace h:=j6 h;rcases h with⟨g,h⟩|⟨g,h⟩)|fail
 all_goals (cases h<;>(simp only[go_sem,seval,Kh, *];exact⟨_,rfl⟩))
def f202 (a0:qc)(a1:Int)(a2:List UInt8):Option Bool:=
 cond (decide (a1=108))
  (jx (f72 a0 a2) fun v2=>
  I (decide (0≤v2)))
  (cond (decide (a1=112))
   (jx (f165 a0 a2) fun v5=>
   I (decide (0≤v5)))
   (cond (decide (a1=117))
    (jx (f93 a0 a2) fun v8=>
    I (decide (0≤v8)))
    (I E1)))
theorem jpz {a0:qc}{a1:Int}{a2:List UInt8}{r}(h:f202 a0 a1 a2=I r):jz pr (X pr) 202 [aR a0,.int .i32 a1,.str a2]=I (.bool r,En):=by
 unfold f202 at h
 refine y7 sZ ?_
 repeat' first|(replace h:=jy h;obtain⟨d,g,h⟩:=h;with_reducible first|replace g:=D9 g|replace g:=uQ g|replace g:=xS g|skip)|(replace h:=j6 h;rcases h with⟨g,h⟩|⟨g,h⟩)|fail
 all_goals (cases h<;>(simp only[go_sem,seval,sZ, *];exact⟨_,rfl⟩))
def f182 (a0:qi):Option Int:=
 I ((a0.aH.getD []).length:Int)
theorem jtj {a0:qi}{r}(h:f182 a0=I r):jz pr (X pr) 182 [aP a0]=I (Iv r,En):=by
 unfold f182 at h
 have hr:((a0.aH.getD []).length:Int)=r:=I.inj h
 subst hr
 have this:∃hh,zg pr (X pr) 182 [aP a0] []=I (Lv a0.aH,En,hh):=by
  rw[zh (show pr.bL 182=I s5 from rfl) (by simp)]
  simp only[go_sem,seval,s5]
  exact⟨_,rfl⟩
 obtain⟨hh,this⟩:=this
 exact ky rfl this (by first|rfl|simp only[go_sem,seval]) (by first|rfl|simp only[go_sem,seval])
def f140 (a0:qc)(a1:qe):Option Int:=
 jx (f165 a0 a1.product) fun v1=>
 jx (zp (a0.ae.getD []) v1) fun v3=>
 jx (f182 v3) fun v5=>
 I v5
theorem jou {a0:qc}{a1:qe}{r}(h:f140 a0 a1=I r):jz pr (X pr) 140 [aR a0,aU a1]=I (Iv r,En):=by
 unfold f140 at h
 refine y7 s6 ?_
 repeat' first|(replace h:=jy h;obtain⟨d,g,h⟩:=h;with_reducible first|replace g:=uQ g|replace g:=jtj g|skip)|(replace h:=j6 h;rcases h with⟨g,h⟩|⟨g,h⟩)|fail
 all_goals (cases h<;>(simp only[go_sem,seval,s6,zn, *];exact⟨_,rfl⟩))
def f134 (a0:qc)(a1:qe):Option qr:=
 jx (f165 a0 a1.product) fun v1=>
 jx (zp (a0.ae.getD []) v1) fun v3=>
 jx (zp (v3.aH.getD []) (j9 .i64 (a1.version-1))) fun v5=>
 I v5
theorem NY {a0:qc}{a1:qe}{r}(h:f134 a0 a1=I r):jz pr (X pr) 134 [aR a0,aU a1]=I (aD r,En):=by
 unfold f134 at h
 refine y7 s7 ?_
 repeat' first|(replace h:=jy h;obtain⟨d,g,h⟩:=h;with_reducible first|replace g:=uQ g|skip)|(replace h:=j6 h;rcases h with⟨g,h⟩|⟨g,h⟩)|fail
 all_goals (cases h<;>(simp only[go_sem,seval,s7,zn, *];exact⟨_,rfl⟩))
def Ag (a0:qe)(a1:qk)(s0:Int×(List UInt8)×Int×Int):Option ((Int×(List UInt8)×Int×Int)⊕((Int×(List UInt8)×Int×Int))):=
 cond (decide (s0.1<((a0.results.getD []).length:Int)))
  (jx (zp (a0.results.getD []) s0.1) fun v12=>
  cond (decide (v12.k=a1.k))
   (cond (decide (v12.a=a0.version))
    (I (.inl (j9 .i64 (s0.1+1),v12.k,v12.a,v12.b)))
    (I (.inl (j9 .i64 (s0.1+1),s0.2.1,s0.2.2.1,s0.2.2.2))))
   (I (.inl (j9 .i64 (s0.1+1),s0.2.1,s0.2.2.1,s0.2.2.2))))
  (I (.inr (s0.1,s0.2.1,s0.2.2.1,s0.2.2.2)))
def Ki (a0:qe)(a1:qk)(s0:Int×(List UInt8)×Int×Int):qg:=⟨[(2,.ah (aU a0),En),(3,.ah (aT a1),En),(5,.ptr 0 0,En),(10,sl 3 z6 a0.results,En),(11,Lv a0.results,En),(12,Iv s0.1,En)],[.cells [(.str s0.2.1,En),(Iv s0.2.2.1,En),(Iv s0.2.2.2,En)]]⟩
def Kj (a0:qe)(a1:qk)(d:(Int×(List UInt8)×Int×Int)):qo×qg:=(.exit 0,⟨[(2,.ah (aU a0),En),(3,.ah (aT a1),En),(5,.ptr 0 0,En),(10,sl 3 z6 a0.results,En),(11,Lv a0.results,En),(12,Iv d.1,En),(13,.bool En,En)],[.cells [(.str d.2.1,En),(Iv d.2.2.1,En),(Iv d.2.2.2,En)]]⟩)
theorem jo1 (a0:qe)(a1:qk)(s0:Int×(List UInt8)×Int×Int)(r)(h:Ag a0 a1 s0=I r):yo pr Kk (Ki a0 a1) (Kj a0 a1) s0 r:=by
 unfold Ag at h
 repeat' first|(replace h:=jy h;obtain⟨d,g,h⟩:=h)|(replace h:=j6 h;rcases h with⟨g,h⟩|⟨g,h⟩)|fail
 all_goals (cases h<;>(first|(refine zy ?_;simp only[go_sem,seval,Kk,Ki,zn,Kj, *]<;>rfl)|(refine yh ?_;simp only[go_sem,seval,Kk,Ki,zn,Kj, *]<;>rfl)))
theorem jse (a0:qe)(a1:qk){s0:Int×(List UInt8)×Int×Int}{d}(h:bf (Ag a0 a1) s0=I d):X pr (.loop Kk) (Ki a0 a1 s0)=I (Kj a0 a1 d):=yz (jo1 a0 a1) (fun d hh=>by cases hh) h
def f136 (a0:qe)(a1:qk):Option Bool:=
 jx (bf (Ag a0 a1) (0,[],(-1),0)) fun d16=>
 cond (decide (d16.2.1=[])&&decide (d16.2.2.1=(-1))&&decide (d16.2.2.2=0))
  (I En)
  (cond (decide (a1.a≤d16.2.2.2))
   (I (decide (d16.2.2.2≤a1.b)))
   (I En))
theorem zaw {a0:qe}{a1:qk}{r}(h:f136 a0 a1=I r):jz pr (X pr) 136 [aU a0,aT a1]=I (.bool r,En):=by
 unfold f136 at h
 refine y7 s9 ?_
 repeat' first|(replace h:=jy h;obtain⟨d,g,h⟩:=h;with_reducible first|(replace g:=jse a0 a1 g;dsimp only[Ki,Kj,y8]at g h)|skip)|(replace h:=j6 h;rcases h with⟨g,h⟩|⟨g,h⟩)|fail
 all_goals (cases h<;>(simp only[go_sem,seval,s9, *];exact⟨_,rfl⟩))
def f135 (a0:qk)(a1:qe):Option Bool:=
 jx (f136 a1 a0) fun v1=>
 I (!v1)
theorem zhq (hp:j8){a0:qk}{a1:qe}{r}(h:f135 a0 a1=I r):zg pr (X pr) 135 [aT a0,.ah (aU a1)] hp=I (.bool r,En,hp):=by
 unfold f135 at h
 obtain⟨v1,h2,h⟩:=jy h
 have rH:jz pr (X pr) 136 [aU a1,aT a0]=I (.bool v1,En):=zaw h2
 have hr:(!v1)=r:=I.inj h
 subst hr
 rw[zh (show pr.bL 135=I tc from rfl) (by simp)]
 simp only[go_sem,seval,tc,rH]<;>rfl
def GF (a0:Option (List qk))(aq:qe)(s0:(Option (List qk))×Int×Bool):Option (((Option (List qk))×Int×Bool)⊕(((Option (List qk))×Bool×Int))):=
 cond (decide (s0.2.1<((a0.getD []).length:Int)))
  (jx (zp (a0.getD []) s0.2.1) fun v20=>
  jx (f135 v20 aq) fun ea=>
  cond ea
   (cond s0.2.2
    (jx (bg s0.1 [v20]) fun eI=>
    I (.inl (eI,j9 .i64 (s0.2.1+1),E1)))
    (cond s0.1.isNone
     (jx (bg s0.1 [v20]) fun fk=>
     I (.inl (fk,j9 .i64 (s0.2.1+1),E1)))
     (E2)))
   (I (.inl (s0.1,j9 .i64 (s0.2.1+1),s0.2.2))))
  (I (.inr (s0.1,s0.2.2,s0.2.1)))
def Kl (a0:Option (List qk))(aq:qe)(s0:(Option (List qk))×Int×Bool):qg:=⟨[(1,.fn (.func 135) [] [.ah (aU aq)],En),(5,sl 3 z6 s0.1,s0.2.2),(8,sl 3 z6 a0,En),(9,Lv a0,En),(10,Iv s0.2.1,En)],[]⟩
def Km (a0:Option (List qk))(aq:qe)(d:((Option (List qk))×Bool×Int)):qo×qg:=(.exit 0,⟨[(1,.fn (.func 135) [] [.ah (aU aq)],En),(5,sl 3 z6 d.1,d.2.1),(8,sl 3 z6 a0,En),(9,Lv a0,En),(10,Iv d.2.2,En),(11,.bool En,En)],[]⟩)
theorem jqh (a0:Option (List qk))(aq:qe)(s0:(Option (List qk))×Int×Bool)(r)(h:GF a0 aq s0=I r):yo pr Kn (Kl a0 aq) (Km a0 aq) s0 r:=by
 unfold GF at h
 repeat' first|(replace h:=jy h;obtain⟨d,g,h⟩:=h;with_reducible first|replace g:=zhq [] g|replace g:=xf g|skip)|(replace h:=j6 h;rcases h with⟨g,h⟩|⟨g,h⟩)|fail
 all_goals (cases h<;>(first|(refine zy ?_;simp only[go_sem,seval,Kn,Kl,zn,Km, *]<;>rfl)|(refine yh ?_;simp only[go_sem,seval,Kn,Kl,zn,Km, *]<;>rfl)))
theorem jr1 (a0:Option (List qk))(aq:qe){s0:(Option (List qk))×Int×Bool}{d}(h:bf (GF a0 aq) s0=I d):X pr (.loop Kn) (Kl a0 aq s0)=I (Km a0 aq d):=yz (jqh a0 aq) (fun d hh=>by cases hh) h
def f133 (a0:Option (List qk))(aq:qe):Option ((Option (List qk))×Bool):=
 jx (bf (GF a0 aq) (E2,0,En)) fun d31=>
 I (d31.1,d31.2.1)
theorem zdq {a0:Option (List qk)}{aq:qe}{r}(h:f133 a0 aq=I r):jz pr (X pr) 133 [sl 3 z6 a0,.fn (.func 135) [] [.ah (aU aq)]]=I (sl 3 z6 r.1,r.2):=by
 unfold f133 at h
 refine eU tf ?_
 repeat' first|(replace h:=jy h;obtain⟨d,g,h⟩:=h;with_reducible first|(replace g:=jr1 a0 aq g;dsimp only[Kl,Km,y8]at g h)|skip)|(replace h:=j6 h;rcases h with⟨g,h⟩|⟨g,h⟩)|fail
 all_goals (cases h<;>(simp only[go_sem,seval,tf, *];exact⟨_,rfl⟩))
def f138 (a0:qk):Option (List UInt8):=
 I a0.k
theorem zfv (hp:j8){a0:qk}{r}(h:f138 a0=I r):zg pr (X pr) 138 [aT a0] hp=I (.str r,En,hp):=by
 unfold f138 at h
 have hr:a0.k=r:=I.inj h
 subst hr
 rw[zh (show pr.bL 138=I tj from rfl) (by simp)]
 simp only[go_sem,seval,tj]<;>rfl
def GG (a0:Option (List qk))(s0:(Option (List (List UInt8)))×Int×Bool):Option (((Option (List (List UInt8)))×Int×Bool)⊕(((Option (List (List UInt8)))×Bool×Int))):=
 cond (decide (s0.2.1<((a0.getD []).length:Int)))
  (jx (zp (a0.getD []) s0.2.1) fun gq=>
  jx (f138 gq) fun v20=>
  cond s0.2.2
   (jx (bg s0.1 [v20]) fun kC=>
   I (.inl (kC,j9 .i64 (s0.2.1+1),E1)))
   (cond s0.1.isNone
    (jx (bg s0.1 [v20]) fun eI=>
    I (.inl (eI,j9 .i64 (s0.2.1+1),E1)))
    (E2)))
  (I (.inr (s0.1,s0.2.2,s0.2.1)))
def Ko (a0:Option (List qk))(s0:(Option (List (List UInt8)))×Int×Bool):qg:=⟨[(1,.fn (.func 138) [] [],En),(5,sl 1 qag s0.1,s0.2.2),(8,sl 3 z6 a0,En),(9,Lv a0,En),(10,Iv s0.2.1,En)],[]⟩
def Kp (a0:Option (List qk))(d:((Option (List (List UInt8)))×Bool×Int)):qo×qg:=(.exit 0,⟨[(1,.fn (.func 138) [] [],En),(5,sl 1 qag d.1,d.2.1),(8,sl 3 z6 a0,En),(9,Lv a0,En),(10,Iv d.2.2,En),(11,.bool En,En)],[]⟩)
theorem jt6 (a0:Option (List qk))(s0:(Option (List (List UInt8)))×Int×Bool)(r)(h:GG a0 s0=I r):yo pr Kq (Ko a0) (Kp a0) s0 r:=by
 unfold GG at h
 repeat' first|(replace h:=jy h;obtain⟨d,g,h⟩:=h;with_reducible first|replace g:=zfv [] g|replace g:=q61 g|skip)|(replace h:=j6 h;rcases h with⟨g,h⟩|⟨g,h⟩)|fail
 all_goals (cases h<;>(first|(refine zy ?_;simp only[go_sem,seval,Kq,Ko,zn,Kp, *]<;>rfl)|(refine yh ?_;simp only[go_sem,seval,Kq,Ko,zn,Kp, *]<;>rfl)))
theorem jup (a0:Option (List qk)){s0:(Option (List (List UInt8)))×Int×Bool}{d}(h:bf (GG a0) s0=I d):X pr (.loop Kq) (Ko a0 s0)=I (Kp a0 d):=yz (jt6 a0) (fun d hh=>by cases hh) h
def f137 (a0:Option (List qk)):Option ((Option (List (List UInt8)))×Bool):=
 jx (bf (GG a0) (E2,0,En)) fun d28=>
 I (d28.1,d28.2.1)
theorem zaa {a0:Option (List qk)}{r}(h:f137 a0=I r):jz pr (X pr) 137 [sl 3 z6 a0,.fn (.func 138) [] []]=I (sl 1 qag r.1,r.2):=by
 unfold f137 at h
 refine eU tm ?_
 repeat' first|(replace h:=jy h;obtain⟨d,g,h⟩:=h;with_reducible first|(replace g:=jup a0 g;dsimp only[Ko,Kp,y8]at g h)|skip)|(replace h:=j6 h;rcases h with⟨g,h⟩|⟨g,h⟩)|fail
 all_goals (cases h<;>(simp only[go_sem,seval,tm, *];exact⟨_,rfl⟩))
def f74 (a0:qc)(a1:qe):Option ((Option (List (List UInt8)))×Bool):=
 jx (f134 a0 a1) fun v1=>
 jx (f133 v1.aw a1) fun v3=>
 jx (f137 v3.1) fun v5=>
 I (v5.1,v5.2)
theorem W74 {a0:qc}{a1:qe}{r}(h:f74 a0 a1=I r):jz pr (X pr) 74 [aR a0,aU a1]=I (sl 1 qag r.1,r.2):=by
 unfold f74 at h
 refine eU Kr ?_
 repeat' first|(replace h:=jy h;obtain⟨d,g,h⟩:=h;with_reducible first|replace g:=NY g|replace g:=zdq g|replace g:=zaa g|skip)|(replace h:=j6 h;rcases h with⟨g,h⟩|⟨g,h⟩)|fail
 all_goals (cases h<;>(simp only[go_sem,seval,Kr, *];exact⟨_,rfl⟩))
end Go.Z
namespace Go.Z
open Go Go.Abs Go.W
def f232 (a0:Option (List qj)):Option ((Option (List qj))×Bool):=
 cond a0.isNone
  (I (E2,En))
  (jx (bg (I []) (a0.getD [])) fun v2=>
  I (v2,E1))
theorem zf4 {a0:Option (List qj)}{r}(h:f232 a0=I r):jz pr (X pr) 232 [sl 5 z8 a0]=I (sl 5 z8 r.1,r.2):=by
 unfold f232 at h
 refine eU tn ?_
 repeat' first|(replace h:=jy h;obtain⟨d,g,h⟩:=h)|(replace h:=j6 h;rcases h with⟨g,h⟩|⟨g,h⟩)|fail
 all_goals (cases h<;>(simp only[go_sem,seval,tn,lT, *];exact⟨_,rfl⟩))
def f234 (a0:Option (List qi)):Option ((Option (List qi))×Bool):=
 cond a0.isNone
  (I (E2,En))
  (jx (bg (I []) (a0.getD [])) fun v2=>
  I (v2,E1))
theorem zbe {a0:Option (List qi)}{r}(h:f234 a0=I r):jz pr (X pr) 234 [sl 4 zt a0]=I (sl 4 zt r.1,r.2):=by
 unfold f234 at h
 refine eU tq ?_
 repeat' first|(replace h:=jy h;obtain⟨d,g,h⟩:=h)|(replace h:=j6 h;rcases h with⟨g,h⟩|⟨g,h⟩)|fail
 all_goals (cases h<;>(simp only[go_sem,seval,tq,lT, *];exact⟨_,rfl⟩))
def f247 (a0:Option (List qe)):Option ((Option (List qe))×Bool):=
 cond a0.isNone
  (I (E2,En))
  (jx (bg (I []) (a0.getD [])) fun v2=>
  I (v2,E1))
theorem zad {a0:Option (List qe)}{r}(h:f247 a0=I r):jz pr (X pr) 247 [sl 8 bh a0]=I (sl 8 bh r.1,r.2):=by
 unfold f247 at h
 refine eU tr ?_
 repeat' first|(replace h:=jy h;obtain⟨d,g,h⟩:=h)|(replace h:=j6 h;rcases h with⟨g,h⟩|⟨g,h⟩)|fail
 all_goals (cases h<;>(simp only[go_sem,seval,tr,lT, *];exact⟨_,rfl⟩))
def f244 (a0:Option (List qr)):Option ((Option (List qr))×Bool):=
 cond a0.isNone
  (I (E2,En))
  (jx (bg (I []) (a0.getD [])) fun v2=>
  I (v2,E1))
theorem zen {a0:Option (List qr)}{r}(h:f244 a0=I r):jz pr (X pr) 244 [sl 2 dk a0]=I (sl 2 dk r.1,r.2):=by
 unfold f244 at h
 refine eU tu ?_
 repeat' first|(replace h:=jy h;obtain⟨d,g,h⟩:=h)|(replace h:=j6 h;rcases h with⟨g,h⟩|⟨g,h⟩)|fail
 all_goals (cases h<;>(simp only[go_sem,seval,tu,lT, *];exact⟨_,rfl⟩))
def f245 (a0:Option (List ql)):Option ((Option (List ql))×Bool):=
 cond a0.isNone
  (I (E2,En))
  (jx (bg (I []) (a0.getD [])) fun v2=>
  I (v2,E1))
theorem jn5 {a0:Option (List ql)}{r}(h:f245 a0=I r):jz pr (X pr) 245 [sl 2 aS a0]=I (sl 2 aS r.1,r.2):=by
 unfold f245 at h
 refine eU tv ?_
 repeat' first|(replace h:=jy h;obtain⟨d,g,h⟩:=h)|(replace h:=j6 h;rcases h with⟨g,h⟩|⟨g,h⟩)|fail
 all_goals (cases h<;>(simp only[go_sem,seval,tv,lT, *];exact⟨_,rfl⟩))
def f246 (a0:Option (List qk)):Option ((Option (List qk))×Bool):=
 cond a0.isNone
  (I (E2,En))
  (jx (bg (I []) (a0.getD [])) fun v2=>
  I (v2,E1))
theorem jub {a0:Option (List qk)}{r}(h:f246 a0=I r):jz pr (X pr) 246 [sl 3 z6 a0]=I (sl 3 z6 r.1,r.2):=by
 unfold f246 at h
 refine eU tw ?_
 repeat' first|(replace h:=jy h;obtain⟨d,g,h⟩:=h)|(replace h:=j6 h;rcases h with⟨g,h⟩|⟨g,h⟩)|fail
 all_goals (cases h<;>(simp only[go_sem,seval,tw,lT, *];exact⟨_,rfl⟩))
def f251 (a0:Option (List qk)):Option ((Option (List qk))×Bool):=
 cond a0.isNone
  (I (E2,En))
  (jx (bg (I []) (a0.getD [])) fun v2=>
  I (v2,E1))
theorem zgj {a0:Option (List qk)}{r}(h:f251 a0=I r):jz pr (X pr) 251 [sl 3 z6 a0]=I (sl 3 z6 r.1,r.2):=by
 unfold f251 at h
 refine eU tz ?_
 repeat' first|(replace h:=jy h;obtain⟨d,g,h⟩:=h)|(replace h:=j6 h;rcases h with⟨g,h⟩|⟨g,h⟩)|fail
 all_goals (cases h<;>(simp only[go_sem,seval,tz,lT, *];exact⟨_,rfl⟩))
def f269 (a0:Option (List ql)):Option ((Option (List ql))×Bool):=
 cond a0.isNone
  (I (E2,En))
  (jx (bg (I []) (a0.getD [])) fun v2=>
  I (v2,E1))
theorem zbh {a0:Option (List ql)}{r}(h:f269 a0=I r):jz pr (X pr) 269 [sl 2 aS a0]=I (sl 2 aS r.1,r.2):=by
 unfold f269 at h
 refine eU tA ?_
 repeat' first|(replace h:=jy h;obtain⟨d,g,h⟩:=h)|(replace h:=j6 h;rcases h with⟨g,h⟩|⟨g,h⟩)|fail
 all_goals (cases h<;>(simp only[go_sem,seval,tA,lT, *];exact⟨_,rfl⟩))
def f164 (a0:Option (List qj))(a1:qj):Option (Option (List qj)):=
 jx (f232 a0) fun v1=>
 cond v1.2
  (jx (bg v1.1 [a1]) fun v4=>
  I v4)
  (cond v1.1.isNone
   (jx (bg v1.1 [a1]) fun v7=>
   I v7)
   (E2))
theorem zbi {a0:Option (List qj)}{a1:qj}{r}(h:f164 a0 a1=I r):jz pr (X pr) 164 [sl 5 z8 a0,aL a1]=I (sl 5 z8 r,E1):=by
 unfold f164 at h
 refine eU tB ?_
 repeat' first|(replace h:=jy h;obtain⟨d,g,h⟩:=h;with_reducible first|replace g:=zf4 g|replace g:=Ni g|skip)|(replace h:=j6 h;rcases h with⟨g,h⟩|⟨g,h⟩)|fail
 all_goals (cases h<;>(simp only[go_sem,seval,tB, *];exact⟨_,rfl⟩))
def f166 (a0:Option (List qi))(a1:qi):Option (Option (List qi)):=
 jx (f234 a0) fun v1=>
 cond v1.2
  (jx (bg v1.1 [a1]) fun v4=>
  I v4)
  (cond v1.1.isNone
   (jx (bg v1.1 [a1]) fun v7=>
   I v7)
   (E2))
theorem zbu {a0:Option (List qi)}{a1:qi}{r}(h:f166 a0 a1=I r):jz pr (X pr) 166 [sl 4 zt a0,aP a1]=I (sl 4 zt r,E1):=by
 unfold f166 at h
 refine eU tC ?_
 repeat' first|(replace h:=jy h;obtain⟨d,g,h⟩:=h;with_reducible first|replace g:=zbe g|replace g:=UX g|skip)|(replace h:=j6 h;rcases h with⟨g,h⟩|⟨g,h⟩)|fail
 all_goals (cases h<;>(simp only[go_sem,seval,tC, *];exact⟨_,rfl⟩))
def f183 (a0:Option (List qe))(a1:qe):Option (Option (List qe)):=
 jx (f247 a0) fun v1=>
 cond v1.2
  (jx (bg v1.1 [a1]) fun v4=>
  I v4)
  (cond v1.1.isNone
   (jx (bg v1.1 [a1]) fun v7=>
   I v7)
   (E2))
theorem j9z {a0:Option (List qe)}{a1:qe}{r}(h:f183 a0 a1=I r):jz pr (X pr) 183 [sl 8 bh a0,aU a1]=I (sl 8 bh r,E1):=by
 unfold f183 at h
 refine eU tD ?_
 repeat' first|(replace h:=jy h;obtain⟨d,g,h⟩:=h;with_reducible first|replace g:=zad g|replace g:=UY g|skip)|(replace h:=j6 h;rcases h with⟨g,h⟩|⟨g,h⟩)|fail
 all_goals (cases h<;>(simp only[go_sem,seval,tD, *];exact⟨_,rfl⟩))
def f180 (a0:Option (List qr))(a1:qr):Option (Option (List qr)):=
 jx (f244 a0) fun v1=>
 cond v1.2
  (jx (bg v1.1 [a1]) fun v4=>
  I v4)
  (cond v1.1.isNone
   (jx (bg v1.1 [a1]) fun v7=>
   I v7)
   (E2))
theorem zds {a0:Option (List qr)}{a1:qr}{r}(h:f180 a0 a1=I r):jz pr (X pr) 180 [sl 2 dk a0,aD a1]=I (sl 2 dk r,E1):=by
 unfold f180 at h
 refine eU tE ?_
 repeat' first|(replace h:=jy h;obtain⟨d,g,h⟩:=h;with_reducible first|replace g:=zen g|replace g:=UW g|skip)|(replace h:=j6 h;rcases h with⟨g,h⟩|⟨g,h⟩)|fail
 all_goals (cases h<;>(simp only[go_sem,seval,tE, *];exact⟨_,rfl⟩))
def f239 (a0:Option (List ql))(a1:ql):Option (Option (List ql)):=
 jx (f245 a0) fun v1=>
 cond v1.2
  (jx (bg v1.1 [a1]) fun v4=>
  I v4)
  (cond v1.1.isNone
   (jx (bg v1.1 [a1]) fun v7=>
   I v7)
   (E2))
theorem zgv {a0:Option (List ql)}{a1:ql}{r}(h:f239 a0 a1=I r):jz pr (X pr) 239 [sl 2 aS a0,aN a1]=I (sl 2 aS r,E1):=by
 unfold f239 at h
 refine eU tF ?_
 repeat' first|(replace h:=jy h;obtain⟨d,g,h⟩:=h;with_reducible first|replace g:=jn5 g|replace g:=vu g|skip)|(replace h:=j6 h;rcases h with⟨g,h⟩|⟨g,h⟩)|fail
 all_goals (cases h<;>(simp only[go_sem,seval,tF, *];exact⟨_,rfl⟩))
def f243 (a0:Option (List qk))(a1:qk):Option (Option (List qk)):=
 jx (f246 a0) fun v1=>
 cond v1.2
  (jx (bg v1.1 [a1]) fun v4=>
  I v4)
  (cond v1.1.isNone
   (jx (bg v1.1 [a1]) fun v7=>
   I v7)
   (E2))
theorem zgg {a0:Option (List qk)}{a1:qk}{r}(h:f243 a0 a1=I r):jz pr (X pr) 243 [sl 3 z6 a0,aT a1]=I (sl 3 z6 r,E1):=by
 unfold f243 at h
 refine eU tG ?_
 repeat' first|(replace h:=jy h;obtain⟨d,g,h⟩:=h;with_reducible first|replace g:=jub g|replace g:=xf g|skip)|(replace h:=j6 h;rcases h with⟨g,h⟩|⟨g,h⟩)|fail
 all_goals (cases h<;>(simp only[go_sem,seval,tG, *];exact⟨_,rfl⟩))
def f250 (a0:Option (List ql))(a1:ql):Option (Option (List ql)):=
 jx (f269 a0) fun v1=>
 cond v1.2
  (jx (bg v1.1 [a1]) fun v4=>
  I v4)
  (cond v1.1.isNone
   (jx (bg v1.1 [a1]) fun v7=>
   I v7)
   (E2))
theorem zby {a0:Option (List ql)}{a1:ql}{r}(h:f250 a0 a1=I r):jz pr (X pr) 250 [sl 2 aS a0,aN a1]=I (sl 2 aS r,E1):=by
 unfold f250 at h
 refine eU tH ?_
 repeat' first|(replace h:=jy h;obtain⟨d,g,h⟩:=h;with_reducible first|replace g:=zbh g|replace g:=vu g|skip)|(replace h:=j6 h;rcases h with⟨g,h⟩|⟨g,h⟩)|fail
 all_goals (cases h<;>(simp only[go_sem,seval,tH, *];exact⟨_,rfl⟩))
def f194 (a0:Option (List qk))(a1:qk):Option (Option (List qk)):=
 jx (f251 a0) fun v1=>
 cond v1.2
  (jx (bg v1.1 [a1]) fun v4=>
  I v4)
  (cond v1.1.isNone
   (jx (bg v1.1 [a1]) fun v7=>
   I v7)
   (E2))
theorem zin {a0:Option (List qk)}{a1:qk}{r}(h:f194 a0 a1=I r):jz pr (X pr) 194 [sl 3 z6 a0,aT a1]=I (sl 3 z6 r,E1):=by
 unfold f194 at h
 refine eU tI ?_
 repeat' first|(replace h:=jy h;obtain⟨d,g,h⟩:=h;with_reducible first|replace g:=zgj g|replace g:=xf g|skip)|(replace h:=j6 h;rcases h with⟨g,h⟩|⟨g,h⟩)|fail
 all_goals (cases h<;>(simp only[go_sem,seval,tI, *];exact⟨_,rfl⟩))
def f181 (a0:qr):Option qr:=
 jx (f245 a0.ax) fun v1=>
 jx (f246 a0.aw) fun v3=>
 I (⟨v1.1,v3.1⟩)
theorem zea {a0:qr}{r}(h:f181 a0=I r):jz pr (X pr) 181 [aD a0]=I (aD r,En):=by
 unfold f181 at h
 refine y7 tJ ?_
 repeat' first|(replace h:=jy h;obtain⟨d,g,h⟩:=h;with_reducible first|replace g:=jn5 g|replace g:=jub g|skip)|(replace h:=j6 h;rcases h with⟨g,h⟩|⟨g,h⟩)|fail
 all_goals (cases h<;>(simp only[go_sem,seval,tJ, *];exact⟨_,rfl⟩))
end Go.Z
end
