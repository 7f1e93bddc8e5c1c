/- Chapter 10. -/
import Derived.Test.YtfopaakmgogpiaaGreatDoorW1
set_option linter.unusedVariables false
set_option linter.unusedSimpArgs false
set_option maxRecDepth 100000
set_option maxHeartbeats 4000000
noncomputable section
open Option renaming some→I,none→En
open Bool renaming false→Eh,true→El
namespace Go.Z
open Go Go.Abs Go.W
def f131 (a0:Int)(a1:qc)(a2:List UInt8):Option Bool:=
 jx (zq (a1.aq.getD []) a0) fun v1=>
 I (decide (v1.name=a2))
theorem zd2 (hp:j8){a0:Int}{a1:qc}{a2:List UInt8}{r}(h:f131 a0 a1 a2=I r):zg pr (X pr) 131 [Iv a0,.ah (aR a1),.ah (.str a2)] hp=I (.bool r,Eh,hp):=by
 unfold f131 at h
 obtain⟨v1,h2,h⟩:=jy h
 have hr:decide (v1.name=a2)=r:=I.inj h
 subst hr
 rw[zh (show pr.bH 131=I tf from rfl) (by simp)]
 simp only[go_sem,seval,tf,ky h2]<;>rfl
def GZ (a0:Int)(ak:qc)(bI:List UInt8)(s0:Int):Option (Int⊕(Int⊕Int)):=
 cond (decide (s0<a0))
  (jx (f131 s0 ak bI) fun v10=>
  cond v10
   (I (.inr (.inl s0)))
   (I (.inl (j9 .i64 (s0+1)))))
  (I (.inr (.inr s0)))
def Kp (a0:Int)(ak:qc)(bI:List UInt8)(s0:Int):qh:=⟨[(1,.fn (.func 131) [] [.ah (aR ak),.ah (.str bI)],Eh),(5,Iv (-1),Eh),(7,Iv a0,Eh),(8,Iv s0,Eh)],[]⟩
def Kq (a0:Int)(ak:qc)(bI:List UInt8):Int⊕Int→qo×qh
 | .inl d=>(.exit 0,⟨[(5,Iv d,Eh)],[]⟩)
 | .inr d=>(.exit 0,⟨[(1,.fn (.func 131) [] [.ah (aR ak),.ah (.str bI)],Eh),(5,Iv (-1),Eh),(7,Iv a0,Eh),(8,Iv d,Eh),(9,.bool Eh,Eh)],[]⟩)
theorem jki (a0:Int)(ak:qc)(bI:List UInt8)(s0:Int)(r)(h:GZ a0 ak bI s0=I r):y5 pr oJ (Kp a0 ak bI) (Kq a0 ak bI) s0 r:=by
 unfold GZ at h
 repeat' first|(replace h:=jy h;obtain⟨d,g,h⟩:=h;with_reducible first|replace g:=zd2 [] g|skip)|(replace h:=j6 h;rcases h with⟨g,h⟩|⟨g,h⟩)|fail
 all_goals (cases h<;>(first|(refine z6 ?_;simp only[go_sem,seval,oJ,Kp,Kq, *]<;>rfl)|(refine yo ?_;simp only[go_sem,seval,oJ,Kp,Kq, *]<;>rfl)))
theorem jk1 (a0:Int)(ak:qc)(bI:List UInt8){s0:Int}{d}(h:bj (GZ a0 ak bI) s0=I d):X pr (.loop oJ) (Kp a0 ak bI s0)=I (Kq a0 ak bI d):=kl (jki a0 ak bI) (fun d=>by rcases d with d|d<;>(intro hh;cases hh)) h
def GY (a0:Int)(ak:qc)(bI:List UInt8):Option Int:=
 jx (bj (GZ a0 ak bI) 0) fun d13=>match d13 with
  | .inl d15=>
   I d15
  | .inr d16=>
   I (-1)
theorem jwf {a0:Int}{ak:qc}{bI:List UInt8}{r}(h:GY a0 ak bI=I r):jz pr (X pr) 130 [Iv a0,.fn (.func 131) [] [.ah (aR ak),.ah (.str bI)]]=I (Iv r,Eh):=by
 unfold GY at h
 refine yt kN ?_
 repeat' first|(replace h:=jy h;obtain⟨d,g,h⟩:=h;with_reducible first|(replace g:=jk1 a0 ak bI g;rcases d with d|d<;>dsimp only[Kp,Kq,ki]at g h)|skip)|(replace h:=j6 h;rcases h with⟨g,h⟩|⟨g,h⟩)|fail
 all_goals (cases h<;>(simp only[go_sem,seval,kN, *];exact⟨_,rfl⟩))
def f72 (a0:qc)(a1:List UInt8):Option Int:=
 jx (GY ((a0.aq.getD []).length:Int) a0 a1) fun v1=>
 I v1
theorem Bl {a0:qc}{a1:List UInt8}{r}(h:f72 a0 a1=I r):jz pr (X pr) 72 [aR a0,.str a1]=I (Iv r,Eh):=by
 unfold f72 at h
 refine yt Kr ?_
 repeat' first|(replace h:=jy h;obtain⟨d,g,h⟩:=h;with_reducible first|replace g:=jwf g|skip)|(replace h:=j6 h;rcases h with⟨g,h⟩|⟨g,h⟩)|fail
 all_goals (cases h<;>(simp only[go_sem,seval,Kr, *];exact⟨_,rfl⟩))
def f233 (a0:Int)(a1:qc)(a2:List UInt8):Option Bool:=
 jx (zq (a1.ae.getD []) a0) fun v1=>
 I (decide (v1.name=a2))
theorem j81 (hp:j8){a0:Int}{a1:qc}{a2:List UInt8}{r}(h:f233 a0 a1 a2=I r):zg pr (X pr) 233 [Iv a0,.ah (aR a1),.ah (.str a2)] hp=I (.bool r,Eh,hp):=by
 unfold f233 at h
 obtain⟨v1,h2,h⟩:=jy h
 have hr:decide (v1.name=a2)=r:=I.inj h
 subst hr
 rw[zh (show pr.bH 233=I tj from rfl) (by simp)]
 simp only[go_sem,seval,tj,ky h2]<;>rfl
def G1 (a0:Int)(ak:qc)(bI:List UInt8)(s0:Int):Option (Int⊕(Int⊕Int)):=
 cond (decide (s0<a0))
  (jx (f233 s0 ak bI) fun v10=>
  cond v10
   (I (.inr (.inl s0)))
   (I (.inl (j9 .i64 (s0+1)))))
  (I (.inr (.inr s0)))
def Ks (a0:Int)(ak:qc)(bI:List UInt8)(s0:Int):qh:=⟨[(1,.fn (.func 233) [] [.ah (aR ak),.ah (.str bI)],Eh),(5,Iv (-1),Eh),(7,Iv a0,Eh),(8,Iv s0,Eh)],[]⟩
def Kt (a0:Int)(ak:qc)(bI:List UInt8):Int⊕Int→qo×qh
 | .inl d=>(.exit 0,⟨[(5,Iv d,Eh)],[]⟩)
 | .inr d=>(.exit 0,⟨[(1,.fn (.func 233) [] [.ah (aR ak),.ah (.str bI)],Eh),(5,Iv (-1),Eh),(7,Iv a0,Eh),(8,Iv d,Eh),(9,.bool Eh,Eh)],[]⟩)
theorem jmf (a0:Int)(ak:qc)(bI:List UInt8)(s0:Int)(r)(h:G1 a0 ak bI s0=I r):y5 pr oJ (Ks a0 ak bI) (Kt a0 ak bI) s0 r:=by
 unfold G1 at h
 repeat' first|(replace h:=jy h;obtain⟨d,g,h⟩:=h;with_reducible first|replace g:=j81 [] g|skip)|(replace h:=j6 h;rcases h with⟨g,h⟩|⟨g,h⟩)|fail
 all_goals (cases h<;>(first|(refine z6 ?_;simp only[go_sem,seval,oJ,Ks,Kt, *]<;>rfl)|(refine yo ?_;simp only[go_sem,seval,oJ,Ks,Kt, *]<;>rfl)))
theorem jk9 (a0:Int)(ak:qc)(bI:List UInt8){s0:Int}{d}(h:bj (G1 a0 ak bI) s0=I d):X pr (.loop oJ) (Ks a0 ak bI s0)=I (Kt a0 ak bI d):=kl (jmf a0 ak bI) (fun d=>by rcases d with d|d<;>(intro hh;cases hh)) h
def G0 (a0:Int)(ak:qc)(bI:List UInt8):Option Int:=
 jx (bj (G1 a0 ak bI) 0) fun d13=>match d13 with
  | .inl d15=>
   I d15
  | .inr d16=>
   I (-1)
theorem jys {a0:Int}{ak:qc}{bI:List UInt8}{r}(h:G0 a0 ak bI=I r):jz pr (X pr) 130 [Iv a0,.fn (.func 233) [] [.ah (aR ak),.ah (.str bI)]]=I (Iv r,Eh):=by
 unfold G0 at h
 refine yt kN ?_
 repeat' first|(replace h:=jy h;obtain⟨d,g,h⟩:=h;with_reducible first|(replace g:=jk9 a0 ak bI g;rcases d with d|d<;>dsimp only[Ks,Kt,ki]at g h)|skip)|(replace h:=j6 h;rcases h with⟨g,h⟩|⟨g,h⟩)|fail
 all_goals (cases h<;>(simp only[go_sem,seval,kN, *];exact⟨_,rfl⟩))
def f165 (a0:qc)(a1:List UInt8):Option Int:=
 jx (G0 ((a0.ae.getD []).length:Int) a0 a1) fun v1=>
 I v1
theorem vm {a0:qc}{a1:List UInt8}{r}(h:f165 a0 a1=I r):jz pr (X pr) 165 [aR a0,.str a1]=I (Iv r,Eh):=by
 unfold f165 at h
 refine yt tm ?_
 repeat' first|(replace h:=jy h;obtain⟨d,g,h⟩:=h;with_reducible first|replace g:=jys g|skip)|(replace h:=j6 h;rcases h with⟨g,h⟩|⟨g,h⟩)|fail
 all_goals (cases h<;>(simp only[go_sem,seval,tm, *];exact⟨_,rfl⟩))
def f148 (a0:Int)(a1:qc)(a2:List UInt8):Option Bool:=
 jx (zq (a1.units.getD []) a0) fun v1=>
 I (decide (v1.name=a2))
theorem zah (hp:j8){a0:Int}{a1:qc}{a2:List UInt8}{r}(h:f148 a0 a1 a2=I r):zg pr (X pr) 148 [Iv a0,.ah (aR a1),.ah (.str a2)] hp=I (.bool r,Eh,hp):=by
 unfold f148 at h
 obtain⟨v1,h2,h⟩:=jy h
 have hr:decide (v1.name=a2)=r:=I.inj h
 subst hr
 rw[zh (show pr.bH 148=I tn from rfl) (by simp)]
 simp only[go_sem,seval,tn,ky h2]<;>rfl
def G4 (a0:Int)(ak:qc)(bI:List UInt8)(s0:Int):Option (Int⊕(Int⊕Int)):=
 cond (decide (s0<a0))
  (jx (f148 s0 ak bI) fun v10=>
  cond v10
   (I (.inr (.inl s0)))
   (I (.inl (j9 .i64 (s0+1)))))
  (I (.inr (.inr s0)))
def Ku (a0:Int)(ak:qc)(bI:List UInt8)(s0:Int):qh:=⟨[(1,.fn (.func 148) [] [.ah (aR ak),.ah (.str bI)],Eh),(5,Iv (-1),Eh),(7,Iv a0,Eh),(8,Iv s0,Eh)],[]⟩
def Kv (a0:Int)(ak:qc)(bI:List UInt8):Int⊕Int→qo×qh
 | .inl d=>(.exit 0,⟨[(5,Iv d,Eh)],[]⟩)
 | .inr d=>(.exit 0,⟨[(1,.fn (.func 148) [] [.ah (aR ak),.ah (.str bI)],Eh),(5,Iv (-1),Eh),(7,Iv a0,Eh),(8,Iv d,Eh),(9,.bool Eh,Eh)],[]⟩)
theorem jkn (a0:Int)(ak:qc)(bI:List UInt8)(s0:Int)(r)(h:G4 a0 ak bI s0=I r):y5 pr oJ (Ku a0 ak bI) (Kv a0 ak bI) s0 r:=by
 unfold G4 at h
 repeat' first|(replace h:=jy h;obtain⟨d,g,h⟩:=h;with_reducible first|replace g:=zah [] g|skip)|(replace h:=j6 h;rcases h with⟨g,h⟩|⟨g,h⟩)|fail
 all_goals (cases h<;>(first|(refine z6 ?_;simp only[go_sem,seval,oJ,Ku,Kv, *]<;>rfl)|(refine yo ?_;simp only[go_sem,seval,oJ,Ku,Kv, *]<;>rfl)))
theorem jmj (a0:Int)(ak:qc)(bI:List UInt8){s0:Int}{d}(h:bj (G4 a0 ak bI) s0=I d):X pr (.loop oJ) (Ku a0 ak bI s0)=I (Kv a0 ak bI d):=kl (jkn a0 ak bI) (fun d=>by rcases d with d|d<;>(intro hh;cases hh)) h
def G3 (a0:Int)(ak:qc)(bI:List UInt8):Option Int:=
 jx (bj (G4 a0 ak bI) 0) fun d13=>match d13 with
  | .inl d15=>
   I d15
  | .inr d16=>
   I (-1)
theorem j5v {a0:Int}{ak:qc}{bI:List UInt8}{r}(h:G3 a0 ak bI=I r):jz pr (X pr) 130 [Iv a0,.fn (.func 148) [] [.ah (aR ak),.ah (.str bI)]]=I (Iv r,Eh):=by
 unfold G3 at h
 refine yt kN ?_
 repeat' first|(replace h:=jy h;obtain⟨d,g,h⟩:=h;with_reducible first|(replace g:=jmj a0 ak bI g;rcases d with d|d<;>dsimp only[Ku,Kv,ki]at g h)|skip)|(replace h:=j6 h;rcases h with⟨g,h⟩|⟨g,h⟩)|fail
 all_goals (cases h<;>(simp only[go_sem,seval,kN, *];exact⟨_,rfl⟩))
def f93 (a0:qc)(a1:List UInt8):Option Int:=
 jx (G3 ((a0.units.getD []).length:Int) a0 a1) fun v1=>
 I v1
theorem wA {a0:qc}{a1:List UInt8}{r}(h:f93 a0 a1=I r):jz pr (X pr) 93 [aR a0,.str a1]=I (Iv r,Eh):=by
 unfold f93 at h
 refine yt Kx ?_
 repeat' first|(replace h:=jy h;obtain⟨d,g,h⟩:=h;with_reducible first|replace g:=j5v g|skip)|(replace h:=j6 h;rcases h with⟨g,h⟩|⟨g,h⟩)|fail
 all_goals (cases h<;>(simp only[go_sem,seval,Kx, *];exact⟨_,rfl⟩))
def f202 (a0:qc)(a1:Int)(a2:List UInt8):Option Bool:=
 cond (decide (a1=108))
  (jx (f72 a0 a2) fun v2=>
  I (decide (0≤v2)))
  (cond (decide (a1=112))
   (jx (f165 a0 a2) fun v5=>
   I (decide (0≤v5)))
   (cond (decide (a1=117))
    (jx (f93 a0 a2) fun v8=>
    I (decide (0≤v8)))
    (I El)))
theorem jpb {a0:qc}{a1:Int}{a2:List UInt8}{r}(h:f202 a0 a1 a2=I r):jz pr (X pr) 202 [aR a0,.int .i32 a1,.str a2]=I (.bool r,Eh):=by
 unfold f202 at h
 refine yt tq ?_
 repeat' first|(replace h:=jy h;obtain⟨d,g,h⟩:=h;with_reducible first|replace g:=Bl g|replace g:=vm g|replace g:=wA g|skip)|(replace h:=j6 h;rcases h with⟨g,h⟩|⟨g,h⟩)|fail
 all_goals (cases h<;>(simp only[go_sem,seval,tq, *];exact⟨_,rfl⟩))
def f182 (a0:qn):Option Int:=
 I ((a0.aO.getD []).length:Int)
theorem jpu {a0:qn}{r}(h:f182 a0=I r):jz pr (X pr) 182 [aP a0]=I (Iv r,Eh):=by
 unfold f182 at h
 have hr:((a0.aO.getD []).length:Int)=r:=I.inj h
 subst hr
 have this:∃hh,zg pr (X pr) 182 [aP a0] []=I (Lv a0.aO,Eh,hh):=by
  rw[zh (show pr.bH 182=I tr from rfl) (by simp)]
  simp only[go_sem,seval,tr]
  exact⟨_,rfl⟩
 obtain⟨hh,this⟩:=this
 exact k9 rfl this (by first|rfl|simp only[go_sem,seval]) (by first|rfl|simp only[go_sem,seval])
def f140 (a0:qc)(a1:qe):Option Int:=
 jx (f165 a0 a1.product) fun v1=>
 jx (zq (a0.ae.getD []) v1) fun v3=>
 jx (f182 v3) fun v5=>
 I v5
theorem jof {a0:qc}{a1:qe}{r}(h:f140 a0 a1=I r):jz pr (X pr) 140 [aR a0,aU a1]=I (Iv r,Eh):=by
 unfold f140 at h
 refine yt tu ?_
 repeat' first|(replace h:=jy h;obtain⟨d,g,h⟩:=h;with_reducible first|replace g:=vm g|replace g:=jpu g|skip)|(replace h:=j6 h;rcases h with⟨g,h⟩|⟨g,h⟩)|fail
 all_goals (cases h<;>(simp only[go_sem,seval,tu,zn, *];exact⟨_,rfl⟩))
def f134 (a0:qc)(a1:qe):Option qt:=
 jx (f165 a0 a1.product) fun v1=>
 jx (zq (a0.ae.getD []) v1) fun v3=>
 jx (zq (v3.aO.getD []) (j9 .i64 (a1.version-1))) fun v5=>
 I v5
theorem Oc {a0:qc}{a1:qe}{r}(h:f134 a0 a1=I r):jz pr (X pr) 134 [aR a0,aU a1]=I (aD r,Eh):=by
 unfold f134 at h
 refine yt tv ?_
 repeat' first|(replace h:=jy h;obtain⟨d,g,h⟩:=h;with_reducible first|replace g:=vm g|skip)|(replace h:=j6 h;rcases h with⟨g,h⟩|⟨g,h⟩)|fail
 all_goals (cases h<;>(simp only[go_sem,seval,tv,zn, *];exact⟨_,rfl⟩))
def AH (a0:qe)(a1:qi)(s0:Int×(List UInt8)×Int×Int):Option ((Int×(List UInt8)×Int×Int)⊕((Int×(List UInt8)×Int×Int))):=
 cond (decide (s0.1<((a0.results.getD []).length:Int)))
  (jx (zq (a0.results.getD []) s0.1) fun v12=>
  cond (decide (v12.k=a1.k))
   (cond (decide (v12.a=a0.version))
    (I (.inl (j9 .i64 (s0.1+1),v12.k,v12.a,v12.b)))
    (I (.inl (j9 .i64 (s0.1+1),s0.2.1,s0.2.2.1,s0.2.2.2))))
   (I (.inl (j9 .i64 (s0.1+1),s0.2.1,s0.2.2.1,s0.2.2.2))))
  (I (.inr (s0.1,s0.2.1,s0.2.2.1,s0.2.2.2)))
def Ky (a0:qe)(a1:qi)(s0:Int×(List UInt8)×Int×Int):qh:=⟨[(2,.ah (aU a0),Eh),(3,.ah (aT a1),Eh),(5,.ptr 0 0,Eh),(10,sl 3 zz a0.results,Eh),(11,Lv a0.results,Eh),(12,Iv s0.1,Eh)],[.cells [(.str s0.2.1,Eh),(Iv s0.2.2.1,Eh),(Iv s0.2.2.2,Eh)]]⟩
def Kz (a0:qe)(a1:qi)(d:(Int×(List UInt8)×Int×Int)):qo×qh:=(.exit 0,⟨[(2,.ah (aU a0),Eh),(3,.ah (aT a1),Eh),(5,.ptr 0 0,Eh),(10,sl 3 zz a0.results,Eh),(11,Lv a0.results,Eh),(12,Iv d.1,Eh),(13,.bool Eh,Eh)],[.cells [(.str d.2.1,Eh),(Iv d.2.2.1,Eh),(Iv d.2.2.2,Eh)]]⟩)
theorem jt8 (a0:qe)(a1:qi)(s0:Int×(List UInt8)×Int×Int)(r)(h:AH a0 a1 s0=I r):y5 pr KA (Ky a0 a1) (Kz a0 a1) s0 r:=by
 unfold AH at h
 repeat' first|(replace h:=jy h;obtain⟨d,g,h⟩:=h)|(replace h:=j6 h;rcases h with⟨g,h⟩|⟨g,h⟩)|fail
 all_goals (cases h<;>(first|(refine z6 ?_;simp only[go_sem,seval,KA,Ky,zn,Kz, *]<;>rfl)|(refine yo ?_;simp only[go_sem,seval,KA,Ky,zn,Kz, *]<;>rfl)))
theorem jpv (a0:qe)(a1:qi){s0:Int×(List UInt8)×Int×Int}{d}(h:bj (AH a0 a1) s0=I d):X pr (.loop KA) (Ky a0 a1 s0)=I (Kz a0 a1 d):=kl (jt8 a0 a1) (fun d hh=>by cases hh) h
def f136 (a0:qe)(a1:qi):Option Bool:=
 jx (bj (AH a0 a1) (0,[],(-1),0)) fun d16=>
 cond (decide (d16.2.1=[])&&decide (d16.2.2.1=(-1))&&decide (d16.2.2.2=0))
  (I Eh)
  (cond (decide (a1.a≤d16.2.2.2))
   (I (decide (d16.2.2.2≤a1.b)))
   (I Eh))
theorem zbb {a0:qe}{a1:qi}{r}(h:f136 a0 a1=I r):jz pr (X pr) 136 [aU a0,aT a1]=I (.bool r,Eh):=by
 unfold f136 at h
 refine yt tw ?_
 repeat' first|(replace h:=jy h;obtain⟨d,g,h⟩:=h;with_reducible first|(replace g:=jpv a0 a1 g;dsimp only[Ky,Kz,ki]at g h)|skip)|(replace h:=j6 h;rcases h with⟨g,h⟩|⟨g,h⟩)|fail
 all_goals (cases h<;>(simp only[go_sem,seval,tw, *];exact⟨_,rfl⟩))
def f135 (a0:qi)(a1:qe):Option Bool:=
 jx (f136 a1 a0) fun v1=>
 I (!v1)
theorem ze0 (hp:j8){a0:qi}{a1:qe}{r}(h:f135 a0 a1=I r):zg pr (X pr) 135 [aT a0,.ah (aU a1)] hp=I (.bool r,Eh,hp):=by
 unfold f135 at h
 obtain⟨v1,h2,h⟩:=jy h
 have rS:jz pr (X pr) 136 [aU a1,aT a0]=I (.bool v1,Eh):=zbb h2
 have hr:(!v1)=r:=I.inj h
 subst hr
 rw[zh (show pr.bH 135=I tz from rfl) (by simp)]
 simp only[go_sem,seval,tz,rS]<;>rfl
def G7 (a0:Option (List qi))(ak:qe)(s0:(Option (List qi))×Int×Bool):Option (((Option (List qi))×Int×Bool)⊕(((Option (List qi))×Bool×Int))):=
 cond (decide (s0.2.1<((a0.getD []).length:Int)))
  (jx (zq (a0.getD []) s0.2.1) fun v20=>
  jx (f135 v20 ak) fun eJ=>
  cond eJ
   (cond s0.2.2
    (jx (bp s0.1 [v20]) fun dM=>
    I (.inl (dM,j9 .i64 (s0.2.1+1),El)))
    (cond s0.1.isNone
     (jx (bp s0.1 [v20]) fun fV=>
     I (.inl (fV,j9 .i64 (s0.2.1+1),El)))
     (En)))
   (I (.inl (s0.1,j9 .i64 (s0.2.1+1),s0.2.2))))
  (I (.inr (s0.1,s0.2.2,s0.2.1)))
def KB (a0:Option (List qi))(ak:qe)(s0:(Option (List qi))×Int×Bool):qh:=⟨[(1,.fn (.func 135) [] [.ah (aU ak)],Eh),(5,sl 3 zz s0.1,s0.2.2),(8,sl 3 zz a0,Eh),(9,Lv a0,Eh),(10,Iv s0.2.1,Eh)],[]⟩
def KC (a0:Option (List qi))(ak:qe)(d:((Option (List qi))×Bool×Int)):qo×qh:=(.exit 0,⟨[(1,.fn (.func 135) [] [.ah (aU ak)],Eh),(5,sl 3 zz d.1,d.2.1),(8,sl 3 zz a0,Eh),(9,Lv a0,Eh),(10,Iv d.2.2,Eh),(11,.bool Eh,Eh)],[]⟩)
theorem jph (a0:Option (List qi))(ak:qe)(s0:(Option (List qi))×Int×Bool)(r)(h:G7 a0 ak s0=I r):y5 pr KD (KB a0 ak) (KC a0 ak) s0 r:=by
 unfold G7 at h
 repeat' first|(replace h:=jy h;obtain⟨d,g,h⟩:=h;with_reducible first|replace g:=ze0 [] g|replace g:=DX g|skip)|(replace h:=j6 h;rcases h with⟨g,h⟩|⟨g,h⟩)|fail
 all_goals (cases h<;>(first|(refine z6 ?_;simp only[go_sem,seval,KD,KB,zn,KC, *]<;>rfl)|(refine yo ?_;simp only[go_sem,seval,KD,KB,zn,KC, *]<;>rfl)))
theorem jtg (a0:Option (List qi))(ak:qe){s0:(Option (List qi))×Int×Bool}{d}(h:bj (G7 a0 ak) s0=I d):X pr (.loop KD) (KB a0 ak s0)=I (KC a0 ak d):=kl (jph a0 ak) (fun d hh=>by cases hh) h
def f133 (a0:Option (List qi))(ak:qe):Option ((Option (List qi))×Bool):=
 jx (bj (G7 a0 ak) (En,0,Eh)) fun d31=>
 I (d31.1,d31.2.1)
theorem zal {a0:Option (List qi)}{ak:qe}{r}(h:f133 a0 ak=I r):jz pr (X pr) 133 [sl 3 zz a0,.fn (.func 135) [] [.ah (aU ak)]]=I (sl 3 zz r.1,r.2):=by
 unfold f133 at h
 refine eh tA ?_
 repeat' first|(replace h:=jy h;obtain⟨d,g,h⟩:=h;with_reducible first|(replace g:=jtg a0 ak g;dsimp only[KB,KC,ki]at g h)|skip)|(replace h:=j6 h;rcases h with⟨g,h⟩|⟨g,h⟩)|fail
 all_goals (cases h<;>(simp only[go_sem,seval,tA, *];exact⟨_,rfl⟩))
def f138 (a0:qi):Option (List UInt8):=
 I a0.k
theorem zfy (hp:j8){a0:qi}{r}(h:f138 a0=I r):zg pr (X pr) 138 [aT a0] hp=I (.str r,Eh,hp):=by
 unfold f138 at h
 have hr:a0.k=r:=I.inj h
 subst hr
 rw[zh (show pr.bH 138=I tB from rfl) (by simp)]
 simp only[go_sem,seval,tB]<;>rfl
def G8 (a0:Option (List qi))(s0:(Option (List (List UInt8)))×Int×Bool):Option (((Option (List (List UInt8)))×Int×Bool)⊕(((Option (List (List UInt8)))×Bool×Int))):=
 cond (decide (s0.2.1<((a0.getD []).length:Int)))
  (jx (zq (a0.getD []) s0.2.1) fun iP=>
  jx (f138 iP) fun v20=>
  cond s0.2.2
   (jx (bp s0.1 [v20]) fun ej=>
   I (.inl (ej,j9 .i64 (s0.2.1+1),El)))
   (cond s0.1.isNone
    (jx (bp s0.1 [v20]) fun dM=>
    I (.inl (dM,j9 .i64 (s0.2.1+1),El)))
    (En)))
  (I (.inr (s0.1,s0.2.2,s0.2.1)))
def KE (a0:Option (List qi))(s0:(Option (List (List UInt8)))×Int×Bool):qh:=⟨[(1,.fn (.func 138) [] [],Eh),(5,sl 1 yp s0.1,s0.2.2),(8,sl 3 zz a0,Eh),(9,Lv a0,Eh),(10,Iv s0.2.1,Eh)],[]⟩
def KF (a0:Option (List qi))(d:((Option (List (List UInt8)))×Bool×Int)):qo×qh:=(.exit 0,⟨[(1,.fn (.func 138) [] [],Eh),(5,sl 1 yp d.1,d.2.1),(8,sl 3 zz a0,Eh),(9,Lv a0,Eh),(10,Iv d.2.2,Eh),(11,.bool Eh,Eh)],[]⟩)
theorem jsn (a0:Option (List qi))(s0:(Option (List (List UInt8)))×Int×Bool)(r)(h:G8 a0 s0=I r):y5 pr KG (KE a0) (KF a0) s0 r:=by
 unfold G8 at h
 repeat' first|(replace h:=jy h;obtain⟨d,g,h⟩:=h;with_reducible first|replace g:=zfy [] g|replace g:=DY g|skip)|(replace h:=j6 h;rcases h with⟨g,h⟩|⟨g,h⟩)|fail
 all_goals (cases h<;>(first|(refine z6 ?_;simp only[go_sem,seval,KG,KE,zn,KF, *]<;>rfl)|(refine yo ?_;simp only[go_sem,seval,KG,KE,zn,KF, *]<;>rfl)))
theorem jse (a0:Option (List qi)){s0:(Option (List (List UInt8)))×Int×Bool}{d}(h:bj (G8 a0) s0=I d):X pr (.loop KG) (KE a0 s0)=I (KF a0 d):=kl (jsn a0) (fun d hh=>by cases hh) h
def f137 (a0:Option (List qi)):Option ((Option (List (List UInt8)))×Bool):=
 jx (bj (G8 a0) (En,0,Eh)) fun d28=>
 I (d28.1,d28.2.1)
theorem zen {a0:Option (List qi)}{r}(h:f137 a0=I r):jz pr (X pr) 137 [sl 3 zz a0,.fn (.func 138) [] []]=I (sl 1 yp r.1,r.2):=by
 unfold f137 at h
 refine eh tC ?_
 repeat' first|(replace h:=jy h;obtain⟨d,g,h⟩:=h;with_reducible first|(replace g:=jse a0 g;dsimp only[KE,KF,ki]at g h)|skip)|(replace h:=j6 h;rcases h with⟨g,h⟩|⟨g,h⟩)|fail
 all_goals (cases h<;>(simp only[go_sem,seval,tC, *];exact⟨_,rfl⟩))
def f74 (a0:qc)(a1:qe):Option ((Option (List (List UInt8)))×Bool):=
 jx (f134 a0 a1) fun v1=>
 jx (f133 v1.aB a1) fun v3=>
 jx (f137 v3.1) fun v5=>
 I (v5.1,v5.2)
theorem W74 {a0:qc}{a1:qe}{r}(h:f74 a0 a1=I r):jz pr (X pr) 74 [aR a0,aU a1]=I (sl 1 yp r.1,r.2):=by
 unfold f74 at h
 refine eh KH ?_
 repeat' first|(replace h:=jy h;obtain⟨d,g,h⟩:=h;with_reducible first|replace g:=Oc g|replace g:=zal g|replace g:=zen g|skip)|(replace h:=j6 h;rcases h with⟨g,h⟩|⟨g,h⟩)|fail
 all_goals (cases h<;>(simp only[go_sem,seval,KH, *];exact⟨_,rfl⟩))
def f129 (a0:qk):Option (List UInt8):=
 I a0.k
theorem zc9 (hp:j8){a0:qk}{r}(h:f129 a0=I r):zg pr (X pr) 129 [aN a0] hp=I (.str r,Eh,hp):=by
 unfold f129 at h
 have hr:a0.k=r:=I.inj h
 subst hr
 rw[zh (show pr.bH 129=I tD from rfl) (by simp)]
 simp only[go_sem,seval,tD]<;>rfl
def HF (a0:Option (List qk))(s0:(Option (List (List UInt8)))×Int×Bool):Option (((Option (List (List UInt8)))×Int×Bool)⊕(((Option (List (List UInt8)))×Bool×Int))):=
 cond (decide (s0.2.1<((a0.getD []).length:Int)))
  (jx (zq (a0.getD []) s0.2.1) fun iP=>
  jx (f129 iP) fun v20=>
  cond s0.2.2
   (jx (bp s0.1 [v20]) fun ej=>
   I (.inl (ej,j9 .i64 (s0.2.1+1),El)))
   (cond s0.1.isNone
    (jx (bp s0.1 [v20]) fun dM=>
    I (.inl (dM,j9 .i64 (s0.2.1+1),El)))
    (En)))
  (I (.inr (s0.1,s0.2.2,s0.2.1)))
def KI (a0:Option (List qk))(s0:(Option (List (List UInt8)))×Int×Bool):qh:=⟨[(1,.fn (.func 129) [] [],Eh),(5,sl 1 yp s0.1,s0.2.2),(8,sl 2 aV a0,Eh),(9,Lv a0,Eh),(10,Iv s0.2.1,Eh)],[]⟩
def KJ (a0:Option (List qk))(d:((Option (List (List UInt8)))×Bool×Int)):qo×qh:=(.exit 0,⟨[(1,.fn (.func 129) [] [],Eh),(5,sl 1 yp d.1,d.2.1),(8,sl 2 aV a0,Eh),(9,Lv a0,Eh),(10,Iv d.2.2,Eh),(11,.bool Eh,Eh)],[]⟩)
theorem jpn (a0:Option (List qk))(s0:(Option (List (List UInt8)))×Int×Bool)(r)(h:HF a0 s0=I r):y5 pr KK (KI a0) (KJ a0) s0 r:=by
 unfold HF at h
 repeat' first|(replace h:=jy h;obtain⟨d,g,h⟩:=h;with_reducible first|replace g:=zc9 [] g|replace g:=DY g|skip)|(replace h:=j6 h;rcases h with⟨g,h⟩|⟨g,h⟩)|fail
 all_goals (cases h<;>(first|(refine z6 ?_;simp only[go_sem,seval,KK,KI,zn,KJ, *]<;>rfl)|(refine yo ?_;simp only[go_sem,seval,KK,KI,zn,KJ, *]<;>rfl)))
theorem jt6 (a0:Option (List qk)){s0:(Option (List (List UInt8)))×Int×Bool}{d}(h:bj (HF a0) s0=I d):X pr (.loop KK) (KI a0 s0)=I (KJ a0 d):=kl (jpn a0) (fun d hh=>by cases hh) h
def f128 (a0:Option (List qk)):Option ((Option (List (List UInt8)))×Bool):=
 jx (bj (HF a0) (En,0,Eh)) fun d28=>
 I (d28.1,d28.2.1)
theorem zhg {a0:Option (List qk)}{r}(h:f128 a0=I r):jz pr (X pr) 128 [sl 2 aV a0,.fn (.func 129) [] []]=I (sl 1 yp r.1,r.2):=by
 unfold f128 at h
 refine eh tE ?_
 repeat' first|(replace h:=jy h;obtain⟨d,g,h⟩:=h;with_reducible first|(replace g:=jt6 a0 g;dsimp only[KI,KJ,ki]at g h)|skip)|(replace h:=j6 h;rcases h with⟨g,h⟩|⟨g,h⟩)|fail
 all_goals (cases h<;>(simp only[go_sem,seval,tE, *];exact⟨_,rfl⟩))
def f71 (a0:qe):Option ((Option (List (List UInt8)))×Bool):=
 jx (f128 a0.uses) fun v1=>
 I (v1.1,v1.2)
theorem W71 {a0:qe}{r}(h:f71 a0=I r):jz pr (X pr) 71 [aU a0]=I (sl 1 yp r.1,r.2):=by
 unfold f71 at h
 refine eh KL ?_
 repeat' first|(replace h:=jy h;obtain⟨d,g,h⟩:=h;with_reducible first|replace g:=zhg g|skip)|(replace h:=j6 h;rcases h with⟨g,h⟩|⟨g,h⟩)|fail
 all_goals (cases h<;>(simp only[go_sem,seval,KL, *];exact⟨_,rfl⟩))
def f132 (a0:qe)(a1:List UInt8):Option Bool:=
 jx (f71 a0) fun v1=>
 jx (f87 v1.1 a1) fun v3=>
 I v3
theorem zcy (hp:j8){a0:qe}{a1:List UInt8}{r}(h:f132 a0 a1=I r):zg pr (X pr) 132 [aU a0,.ah (.str a1)] hp=I (.bool r,Eh,hp):=by
 unfold f132 at h
 rw[zh (show pr.bH 132=I tF from rfl) (by simp)]
 repeat' first|(replace h:=jy h;obtain⟨d,g,h⟩:=h;with_reducible first|replace g:=W71 g|replace g:=W87 g|skip)|(replace h:=j6 h;rcases h with⟨g,h⟩|⟨g,h⟩)|fail
 all_goals (cases h<;>(simp only[go_sem,seval,tF, *]<;>rfl))
def HG (a0:Option (List qe))(ak:List UInt8)(s0:(Option (List qe))×Int×Bool):Option (((Option (List qe))×Int×Bool)⊕(((Option (List qe))×Bool×Int))):=
 cond (decide (s0.2.1<((a0.getD []).length:Int)))
  (jx (zq (a0.getD []) s0.2.1) fun v20=>
  jx (f132 v20 ak) fun eJ=>
  cond eJ
   (cond s0.2.2
    (jx (bp s0.1 [v20]) fun dM=>
    I (.inl (dM,j9 .i64 (s0.2.1+1),El)))
    (cond s0.1.isNone
     (jx (bp s0.1 [v20]) fun fV=>
     I (.inl (fV,j9 .i64 (s0.2.1+1),El)))
     (En)))
   (I (.inl (s0.1,j9 .i64 (s0.2.1+1),s0.2.2))))
  (I (.inr (s0.1,s0.2.2,s0.2.1)))
def KM (a0:Option (List qe))(ak:List UInt8)(s0:(Option (List qe))×Int×Bool):qh:=⟨[(1,.fn (.func 132) [] [.ah (.str ak)],Eh),(5,sl 8 bf s0.1,s0.2.2),(8,sl 8 bf a0,Eh),(9,Lv a0,Eh),(10,Iv s0.2.1,Eh)],[]⟩
def KN (a0:Option (List qe))(ak:List UInt8)(d:((Option (List qe))×Bool×Int)):qo×qh:=(.exit 0,⟨[(1,.fn (.func 132) [] [.ah (.str ak)],Eh),(5,sl 8 bf d.1,d.2.1),(8,sl 8 bf a0,Eh),(9,Lv a0,Eh),(10,Iv d.2.2,Eh),(11,.bool Eh,Eh)],[]⟩)
theorem j13 (a0:Option (List qe))(ak:List UInt8)(s0:(Option (List qe))×Int×Bool)(r)(h:HG a0 ak s0=I r):y5 pr KO (KM a0 ak) (KN a0 ak) s0 r:=by
 unfold HG at h
 repeat' first|(replace h:=jy h;obtain⟨d,g,h⟩:=h;with_reducible first|replace g:=zcy [] g|replace g:=UX g|skip)|(replace h:=j6 h;rcases h with⟨g,h⟩|⟨g,h⟩)|fail
 all_goals (cases h<;>(first|(refine z6 ?_;simp only[go_sem,seval,KO,KM,zn,KN, *]<;>rfl)|(refine yo ?_;simp only[go_sem,seval,KO,KM,zn,KN, *]<;>rfl)))
theorem jwr (a0:Option (List qe))(ak:List UInt8){s0:(Option (List qe))×Int×Bool}{d}(h:bj (HG a0 ak) s0=I d):X pr (.loop KO) (KM a0 ak s0)=I (KN a0 ak d):=kl (j13 a0 ak) (fun d hh=>by cases hh) h
def f88 (a0:Option (List qe))(ak:List UInt8):Option ((Option (List qe))×Bool):=
 jx (bj (HG a0 ak) (En,0,Eh)) fun d31=>
 I (d31.1,d31.2.1)
theorem W88 {a0:Option (List qe)}{ak:List UInt8}{r}(h:f88 a0 ak=I r):jz pr (X pr) 88 [sl 8 bf a0,.fn (.func 132) [] [.ah (.str ak)]]=I (sl 8 bf r.1,r.2):=by
 unfold f88 at h
 refine eh KP ?_
 repeat' first|(replace h:=jy h;obtain⟨d,g,h⟩:=h;with_reducible first|(replace g:=jwr a0 ak g;dsimp only[KM,KN,ki]at g h)|skip)|(replace h:=j6 h;rcases h with⟨g,h⟩|⟨g,h⟩)|fail
 all_goals (cases h<;>(simp only[go_sem,seval,KP, *];exact⟨_,rfl⟩))
def f91 (a0:qe):Option (List UInt8):=
 I a0.name
theorem W91 (hp:j8){a0:qe}{r}(h:f91 a0=I r):zg pr (X pr) 91 [aU a0] hp=I (.str r,Eh,hp):=by
 unfold f91 at h
 have hr:a0.name=r:=I.inj h
 subst hr
 rw[zh (show pr.bH 91=I KQ from rfl) (by simp)]
 simp only[go_sem,seval,KQ]<;>rfl
def HI (a0:Option (List qe))(s0:(Option (List (List UInt8)))×Int×Bool):Option (((Option (List (List UInt8)))×Int×Bool)⊕(((Option (List (List UInt8)))×Bool×Int))):=
 cond (decide (s0.2.1<((a0.getD []).length:Int)))
  (jx (zq (a0.getD []) s0.2.1) fun iP=>
  jx (f91 iP) fun v20=>
  cond s0.2.2
   (jx (bp s0.1 [v20]) fun ej=>
   I (.inl (ej,j9 .i64 (s0.2.1+1),El)))
   (cond s0.1.isNone
    (jx (bp s0.1 [v20]) fun dM=>
    I (.inl (dM,j9 .i64 (s0.2.1+1),El)))
    (En)))
  (I (.inr (s0.1,s0.2.2,s0.2.1)))
def KR (a0:Option (List qe))(s0:(Option (List (List UInt8)))×Int×Bool):qh:=⟨[(1,.fn (.func 91) [] [],Eh),(5,sl 1 yp s0.1,s0.2.2),(8,sl 8 bf a0,Eh),(9,Lv a0,Eh),(10,Iv s0.2.1,Eh)],[]⟩
def KS (a0:Option (List qe))(d:((Option (List (List UInt8)))×Bool×Int)):qo×qh:=(.exit 0,⟨[(1,.fn (.func 91) [] [],Eh),(5,sl 1 yp d.1,d.2.1),(8,sl 8 bf a0,Eh),(9,Lv a0,Eh),(10,Iv d.2.2,Eh),(11,.bool Eh,Eh)],[]⟩)
theorem j0f (a0:Option (List qe))(s0:(Option (List (List UInt8)))×Int×Bool)(r)(h:HI a0 s0=I r):y5 pr KT (KR a0) (KS a0) s0 r:=by
 unfold HI at h
 repeat' first|(replace h:=jy h;obtain⟨d,g,h⟩:=h;with_reducible first|replace g:=W91 [] g|replace g:=DY g|skip)|(replace h:=j6 h;rcases h with⟨g,h⟩|⟨g,h⟩)|fail
 all_goals (cases h<;>(first|(refine z6 ?_;simp only[go_sem,seval,KT,KR,zn,KS, *]<;>rfl)|(refine yo ?_;simp only[go_sem,seval,KT,KR,zn,KS, *]<;>rfl)))
theorem j1f (a0:Option (List qe)){s0:(Option (List (List UInt8)))×Int×Bool}{d}(h:bj (HI a0) s0=I d):X pr (.loop KT) (KR a0 s0)=I (KS a0 d):=kl (j0f a0) (fun d hh=>by cases hh) h
def f89 (a0:Option (List qe)):Option ((Option (List (List UInt8)))×Bool):=
 jx (bj (HI a0) (En,0,Eh)) fun d28=>
 I (d28.1,d28.2.1)
theorem W89 {a0:Option (List qe)}{r}(h:f89 a0=I r):jz pr (X pr) 89 [sl 8 bf a0,.fn (.func 91) [] []]=I (sl 1 yp r.1,r.2):=by
 unfold f89 at h
 refine eh KU ?_
 repeat' first|(replace h:=jy h;obtain⟨d,g,h⟩:=h;with_reducible first|(replace g:=j1f a0 g;dsimp only[KR,KS,ki]at g h)|skip)|(replace h:=j6 h;rcases h with⟨g,h⟩|⟨g,h⟩)|fail
 all_goals (cases h<;>(simp only[go_sem,seval,KU, *];exact⟨_,rfl⟩))
def f73 (a0:qc)(a1:List UInt8):Option ((Option (List (List UInt8)))×Bool):=
 jx (f88 a0.units a1) fun v1=>
 jx (f89 v1.1) fun v3=>
 I (v3.1,v3.2)
theorem W73 {a0:qc}{a1:List UInt8}{r}(h:f73 a0 a1=I r):jz pr (X pr) 73 [aR a0,.str a1]=I (sl 1 yp r.1,r.2):=by
 unfold f73 at h
 refine eh KW ?_
 repeat' first|(replace h:=jy h;obtain⟨d,g,h⟩:=h;with_reducible first|replace g:=W88 g|replace g:=W89 g|skip)|(replace h:=j6 h;rcases h with⟨g,h⟩|⟨g,h⟩)|fail
 all_goals (cases h<;>(simp only[go_sem,seval,KW, *];exact⟨_,rfl⟩))
def wi (a0:qc)(a1:List UInt8)(s0:Int×Int):Option ((Int×Int)⊕((Int×Int))):=
 cond (decide (s0.2<((a0.aq.getD []).length:Int)))
  (jx (zq (a0.aq.getD []) s0.2) fun v12=>
  cond (decide (v12.kind=a1))
   (cond v12.held
    (I (.inl (s0.1,j9 .i64 (s0.2+1))))
    (I (.inl (j9 .i64 (s0.1+v12.left),j9 .i64 (s0.2+1)))))
   (I (.inl (s0.1,j9 .i64 (s0.2+1)))))
  (I (.inr (s0.1,s0.2)))
def KX (a0:qc)(a1:List UInt8)(s0:Int×Int):qh:=⟨[(1,.str a1,Eh),(5,Iv s0.1,Eh),(9,sl 5 z8 a0.aq,Eh),(10,Lv a0.aq,Eh),(11,Iv s0.2,Eh)],[]⟩
def KY (a0:qc)(a1:List UInt8)(d:(Int×Int)):qo×qh:=(.exit 0,⟨[(1,.str a1,Eh),(5,Iv d.1,Eh),(9,sl 5 z8 a0.aq,Eh),(10,Lv a0.aq,Eh),(11,Iv d.2,Eh),(12,.bool Eh,Eh)],[]⟩)
theorem j18 (a0:qc)(a1:List UInt8)(s0:Int×Int)(r)(h:wi a0 a1 s0=I r):y5 pr KZ (KX a0 a1) (KY a0 a1) s0 r:=by
 unfold wi at h
 repeat' first|(replace h:=jy h;obtain⟨d,g,h⟩:=h)|(replace h:=j6 h;rcases h with⟨g,h⟩|⟨g,h⟩)|fail
 all_goals (cases h<;>(first|(refine z6 ?_;simp only[go_sem,seval,KZ,KX,zn,KY, *]<;>rfl)|(refine yo ?_;simp only[go_sem,seval,KZ,KX,zn,KY, *]<;>rfl)))
theorem jwp (a0:qc)(a1:List UInt8){s0:Int×Int}{d}(h:bj (wi a0 a1) s0=I d):X pr (.loop KZ) (KX a0 a1 s0)=I (KY a0 a1 d):=kl (j18 a0 a1) (fun d hh=>by cases hh) h
def f76 (a0:qc)(a1:List UInt8):Option Int:=
 jx (bj (wi a0 a1) (0,0)) fun d16=>
 I d16.1
theorem W76 {a0:qc}{a1:List UInt8}{r}(h:f76 a0 a1=I r):jz pr (X pr) 76 [aR a0,.str a1]=I (Iv r,Eh):=by
 unfold f76 at h
 refine yt K0 ?_
 repeat' first|(replace h:=jy h;obtain⟨d,g,h⟩:=h;with_reducible first|(replace g:=jwp a0 a1 g;dsimp only[KX,KY,ki]at g h)|skip)|(replace h:=j6 h;rcases h with⟨g,h⟩|⟨g,h⟩)|fail
 all_goals (cases h<;>(simp only[go_sem,seval,K0, *];exact⟨_,rfl⟩))
end Go.Z
namespace Go.Z
open Go Go.Abs Go.W
def f232 (a0:Option (List qj)):Option ((Option (List qj))×Bool):=
 cond a0.isNone
  (I (En,Eh))
  (jx (bp (I []) (a0.getD [])) fun v2=>
  I (v2,El))
theorem zf9 {a0:Option (List qj)}{r}(h:f232 a0=I r):jz pr (X pr) 232 [sl 5 z8 a0]=I (sl 5 z8 r.1,r.2):=by
 unfold f232 at h
 refine eh tG ?_
 repeat' first|(replace h:=jy h;obtain⟨d,g,h⟩:=h)|(replace h:=j6 h;rcases h with⟨g,h⟩|⟨g,h⟩)|fail
 all_goals (cases h<;>(simp only[go_sem,seval,tG,lX, *];exact⟨_,rfl⟩))
def f234 (a0:Option (List qn)):Option ((Option (List qn))×Bool):=
 cond a0.isNone
  (I (En,Eh))
  (jx (bp (I []) (a0.getD [])) fun v2=>
  I (v2,El))
theorem zbe {a0:Option (List qn)}{r}(h:f234 a0=I r):jz pr (X pr) 234 [sl 4 zu a0]=I (sl 4 zu r.1,r.2):=by
 unfold f234 at h
 refine eh tH ?_
 repeat' first|(replace h:=jy h;obtain⟨d,g,h⟩:=h)|(replace h:=j6 h;rcases h with⟨g,h⟩|⟨g,h⟩)|fail
 all_goals (cases h<;>(simp only[go_sem,seval,tH,lX, *];exact⟨_,rfl⟩))
def f247 (a0:Option (List qe)):Option ((Option (List qe))×Bool):=
 cond a0.isNone
  (I (En,Eh))
  (jx (bp (I []) (a0.getD [])) fun v2=>
  I (v2,El))
theorem zc3 {a0:Option (List qe)}{r}(h:f247 a0=I r):jz pr (X pr) 247 [sl 8 bf a0]=I (sl 8 bf r.1,r.2):=by
 unfold f247 at h
 refine eh tI ?_
 repeat' first|(replace h:=jy h;obtain⟨d,g,h⟩:=h)|(replace h:=j6 h;rcases h with⟨g,h⟩|⟨g,h⟩)|fail
 all_goals (cases h<;>(simp only[go_sem,seval,tI,lX, *];exact⟨_,rfl⟩))
def f244 (a0:Option (List qt)):Option ((Option (List qt))×Bool):=
 cond a0.isNone
  (I (En,Eh))
  (jx (bp (I []) (a0.getD [])) fun v2=>
  I (v2,El))
theorem j98 {a0:Option (List qt)}{r}(h:f244 a0=I r):jz pr (X pr) 244 [sl 2 dp a0]=I (sl 2 dp r.1,r.2):=by
 unfold f244 at h
 refine eh tJ ?_
 repeat' first|(replace h:=jy h;obtain⟨d,g,h⟩:=h)|(replace h:=j6 h;rcases h with⟨g,h⟩|⟨g,h⟩)|fail
 all_goals (cases h<;>(simp only[go_sem,seval,tJ,lX, *];exact⟨_,rfl⟩))
def f245 (a0:Option (List qk)):Option ((Option (List qk))×Bool):=
 cond a0.isNone
  (I (En,Eh))
  (jx (bp (I []) (a0.getD [])) fun v2=>
  I (v2,El))
theorem joq {a0:Option (List qk)}{r}(h:f245 a0=I r):jz pr (X pr) 245 [sl 2 aV a0]=I (sl 2 aV r.1,r.2):=by
 unfold f245 at h
 refine eh tK ?_
 repeat' first|(replace h:=jy h;obtain⟨d,g,h⟩:=h)|(replace h:=j6 h;rcases h with⟨g,h⟩|⟨g,h⟩)|fail
 all_goals (cases h<;>(simp only[go_sem,seval,tK,lX, *];exact⟨_,rfl⟩))
def f246 (a0:Option (List qi)):Option ((Option (List qi))×Bool):=
 cond a0.isNone
  (I (En,Eh))
  (jx (bp (I []) (a0.getD [])) fun v2=>
  I (v2,El))
theorem jt1 {a0:Option (List qi)}{r}(h:f246 a0=I r):jz pr (X pr) 246 [sl 3 zz a0]=I (sl 3 zz r.1,r.2):=by
 unfold f246 at h
 refine eh tL ?_
 repeat' first|(replace h:=jy h;obtain⟨d,g,h⟩:=h)|(replace h:=j6 h;rcases h with⟨g,h⟩|⟨g,h⟩)|fail
 all_goals (cases h<;>(simp only[go_sem,seval,tL,lX, *];exact⟨_,rfl⟩))
def f251 (a0:Option (List qi)):Option ((Option (List qi))×Bool):=
 cond a0.isNone
  (I (En,Eh))
  (jx (bp (I []) (a0.getD [])) fun v2=>
  I (v2,El))
theorem zcx {a0:Option (List qi)}{r}(h:f251 a0=I r):jz pr (X pr) 251 [sl 3 zz a0]=I (sl 3 zz r.1,r.2):=by
 unfold f251 at h
 refine eh tM ?_
 repeat' first|(replace h:=jy h;obtain⟨d,g,h⟩:=h)|(replace h:=j6 h;rcases h with⟨g,h⟩|⟨g,h⟩)|fail
 all_goals (cases h<;>(simp only[go_sem,seval,tM,lX, *];exact⟨_,rfl⟩))
def f269 (a0:Option (List qk)):Option ((Option (List qk))×Bool):=
 cond a0.isNone
  (I (En,Eh))
  (jx (bp (I []) (a0.getD [])) fun v2=>
  I (v2,El))
theorem j9j {a0:Option (List qk)}{r}(h:f269 a0=I r):jz pr (X pr) 269 [sl 2 aV a0]=I (sl 2 aV r.1,r.2):=by
 unfold f269 at h
 refine eh tN ?_
 repeat' first|(replace h:=jy h;obtain⟨d,g,h⟩:=h)|(replace h:=j6 h;rcases h with⟨g,h⟩|⟨g,h⟩)|fail
 all_goals (cases h<;>(simp only[go_sem,seval,tN,lX, *];exact⟨_,rfl⟩))
def f164 (a0:Option (List qj))(a1:qj):Option (Option (List qj)):=
 jx (f232 a0) fun v1=>
 cond v1.2
  (jx (bp v1.1 [a1]) fun v4=>
  I v4)
  (cond v1.1.isNone
   (jx (bp v1.1 [a1]) fun v7=>
   I v7)
   (En))
theorem zhz {a0:Option (List qj)}{a1:qj}{r}(h:f164 a0 a1=I r):jz pr (X pr) 164 [sl 5 z8 a0,aL a1]=I (sl 5 z8 r,El):=by
 unfold f164 at h
 refine eh tO ?_
 repeat' first|(replace h:=jy h;obtain⟨d,g,h⟩:=h;with_reducible first|replace g:=zf9 g|replace g:=UW g|skip)|(replace h:=j6 h;rcases h with⟨g,h⟩|⟨g,h⟩)|fail
 all_goals (cases h<;>(simp only[go_sem,seval,tO, *];exact⟨_,rfl⟩))
def f166 (a0:Option (List qn))(a1:qn):Option (Option (List qn)):=
 jx (f234 a0) fun v1=>
 cond v1.2
  (jx (bp v1.1 [a1]) fun v4=>
  I v4)
  (cond v1.1.isNone
   (jx (bp v1.1 [a1]) fun v7=>
   I v7)
   (En))
theorem j9h {a0:Option (List qn)}{a1:qn}{r}(h:f166 a0 a1=I r):jz pr (X pr) 166 [sl 4 zu a0,aP a1]=I (sl 4 zu r,El):=by
 unfold f166 at h
 refine eh tP ?_
 repeat' first|(replace h:=jy h;obtain⟨d,g,h⟩:=h;with_reducible first|replace g:=zbe g|replace g:=q4b g|skip)|(replace h:=j6 h;rcases h with⟨g,h⟩|⟨g,h⟩)|fail
 all_goals (cases h<;>(simp only[go_sem,seval,tP, *];exact⟨_,rfl⟩))
def f183 (a0:Option (List qe))(a1:qe):Option (Option (List qe)):=
 jx (f247 a0) fun v1=>
 cond v1.2
  (jx (bp v1.1 [a1]) fun v4=>
  I v4)
  (cond v1.1.isNone
   (jx (bp v1.1 [a1]) fun v7=>
   I v7)
   (En))
theorem zfp {a0:Option (List qe)}{a1:qe}{r}(h:f183 a0 a1=I r):jz pr (X pr) 183 [sl 8 bf a0,aU a1]=I (sl 8 bf r,El):=by
 unfold f183 at h
 refine eh tQ ?_
 repeat' first|(replace h:=jy h;obtain⟨d,g,h⟩:=h;with_reducible first|replace g:=zc3 g|replace g:=UX g|skip)|(replace h:=j6 h;rcases h with⟨g,h⟩|⟨g,h⟩)|fail
 all_goals (cases h<;>(simp only[go_sem,seval,tQ, *];exact⟨_,rfl⟩))
def f180 (a0:Option (List qt))(a1:qt):Option (Option (List qt)):=
 jx (f244 a0) fun v1=>
 cond v1.2
  (jx (bp v1.1 [a1]) fun v4=>
  I v4)
  (cond v1.1.isNone
   (jx (bp v1.1 [a1]) fun v7=>
   I v7)
   (En))
theorem j8s {a0:Option (List qt)}{a1:qt}{r}(h:f180 a0 a1=I r):jz pr (X pr) 180 [sl 2 dp a0,aD a1]=I (sl 2 dp r,El):=by
 unfold f180 at h
 refine eh tR ?_
 repeat' first|(replace h:=jy h;obtain⟨d,g,h⟩:=h;with_reducible first|replace g:=j98 g|replace g:=q5w g|skip)|(replace h:=j6 h;rcases h with⟨g,h⟩|⟨g,h⟩)|fail
 all_goals (cases h<;>(simp only[go_sem,seval,tR, *];exact⟨_,rfl⟩))
def f239 (a0:Option (List qk))(a1:qk):Option (Option (List qk)):=
 jx (f245 a0) fun v1=>
 cond v1.2
  (jx (bp v1.1 [a1]) fun v4=>
  I v4)
  (cond v1.1.isNone
   (jx (bp v1.1 [a1]) fun v7=>
   I v7)
   (En))
theorem zfg {a0:Option (List qk)}{a1:qk}{r}(h:f239 a0 a1=I r):jz pr (X pr) 239 [sl 2 aV a0,aN a1]=I (sl 2 aV r,El):=by
 unfold f239 at h
 refine eh tS ?_
 repeat' first|(replace h:=jy h;obtain⟨d,g,h⟩:=h;with_reducible first|replace g:=joq g|replace g:=AF g|skip)|(replace h:=j6 h;rcases h with⟨g,h⟩|⟨g,h⟩)|fail
 all_goals (cases h<;>(simp only[go_sem,seval,tS, *];exact⟨_,rfl⟩))
def f243 (a0:Option (List qi))(a1:qi):Option (Option (List qi)):=
 jx (f246 a0) fun v1=>
 cond v1.2
  (jx (bp v1.1 [a1]) fun v4=>
  I v4)
  (cond v1.1.isNone
   (jx (bp v1.1 [a1]) fun v7=>
   I v7)
   (En))
theorem zch {a0:Option (List qi)}{a1:qi}{r}(h:f243 a0 a1=I r):jz pr (X pr) 243 [sl 3 zz a0,aT a1]=I (sl 3 zz r,El):=by
 unfold f243 at h
 refine eh tT ?_
 repeat' first|(replace h:=jy h;obtain⟨d,g,h⟩:=h;with_reducible first|replace g:=jt1 g|replace g:=DX g|skip)|(replace h:=j6 h;rcases h with⟨g,h⟩|⟨g,h⟩)|fail
 all_goals (cases h<;>(simp only[go_sem,seval,tT, *];exact⟨_,rfl⟩))
def f250 (a0:Option (List qk))(a1:qk):Option (Option (List qk)):=
 jx (f269 a0) fun v1=>
 cond v1.2
  (jx (bp v1.1 [a1]) fun v4=>
  I v4)
  (cond v1.1.isNone
   (jx (bp v1.1 [a1]) fun v7=>
   I v7)
   (En))
theorem zdc {a0:Option (List qk)}{a1:qk}{r}(h:f250 a0 a1=I r):jz pr (X pr) 250 [sl 2 aV a0,aN a1]=I (sl 2 aV r,El):=by
 unfold f250 at h
 refine eh tU ?_
 repeat' first|(replace h:=jy h;obtain⟨d,g,h⟩:=h;with_reducible first|replace g:=j9j g|replace g:=AF g|skip)|(replace h:=j6 h;rcases h with⟨g,h⟩|⟨g,h⟩)|fail
 all_goals (cases h<;>(simp only[go_sem,seval,tU, *];exact⟨_,rfl⟩))
def f194 (a0:Option (List qi))(a1:qi):Option (Option (List qi)):=
 jx (f251 a0) fun v1=>
 cond v1.2
  (jx (bp v1.1 [a1]) fun v4=>
  I v4)
  (cond v1.1.isNone
   (jx (bp v1.1 [a1]) fun v7=>
   I v7)
   (En))
theorem zeb {a0:Option (List qi)}{a1:qi}{r}(h:f194 a0 a1=I r):jz pr (X pr) 194 [sl 3 zz a0,aT a1]=I (sl 3 zz r,El):=by
 unfold f194 at h
 refine eh tV ?_
 repeat' first|(replace h:=jy h;obtain⟨d,g,h⟩:=h;with_reducible first|replace g:=zcx g|replace g:=DX g|skip)|(replace h:=j6 h;rcases h with⟨g,h⟩|⟨g,h⟩)|fail
 all_goals (cases h<;>(simp only[go_sem,seval,tV, *];exact⟨_,rfl⟩))
def f181 (a0:qt):Option qt:=
 jx (f245 a0.aF) fun v1=>
 jx (f246 a0.aB) fun v3=>
 I (⟨v1.1,v3.1⟩)
theorem zfw {a0:qt}{r}(h:f181 a0=I r):jz pr (X pr) 181 [aD a0]=I (aD r,Eh):=by
 unfold f181 at h
 refine yt tW ?_
 repeat' first|(replace h:=jy h;obtain⟨d,g,h⟩:=h;with_reducible first|replace g:=joq g|replace g:=jt1 g|skip)|(replace h:=j6 h;rcases h with⟨g,h⟩|⟨g,h⟩)|fail
 all_goals (cases h<;>(simp only[go_sem,seval,tW, *];exact⟨_,rfl⟩))
end Go.Z
end
