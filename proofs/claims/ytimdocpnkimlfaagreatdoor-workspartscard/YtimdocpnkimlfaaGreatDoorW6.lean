/- Chapter 10. -/
import Derived.Test.YtimdocpnkimlfaaGreatDoorW1
set_option linter.unusedVariables false
set_option linter.unusedSimpArgs false
set_option maxRecDepth 100000
set_option maxHeartbeats 4000000
noncomputable section
open Option renaming some→I,none→Gn
open Bool renaming false→En,true→Ey
namespace Go.Z
open Go Go.Abs Go.W
def Nf (a0:Int)(a1:aj)(a2:List UInt8):Option Bool:=
 qa (qr (a1.lots.getD []) a0) fun v1=>
 I (decide (v1.name=a2))
theorem zc4 (hp:qh){a0 a1 a2 r}(h:Nf a0 a1 a2=I r):qm pr (X pr) 119 [Iv a0,.ah (aR a1),.ah (.str a2)] hp=I (.bool r,En,hp):=by
 unfold Nf at h
 obtain⟨v1,h2,h⟩:=qb h
 have hr:decide (v1.name=a2)=r:=I.inj h
 subst hr
 rw[qn (show pr.bQ 119=I uj from rfl) (by simp)]
 simp only[go_sem,seval,uj,yb h2]<;>rfl
def Io (a0:Int)(aq:aj)(bS:List UInt8)(s0:Int):Option (Int⊕(Int⊕Int)):=
 cond (decide (s0<a0))
  (qa (Nf s0 aq bS) fun v10=>
  cond v10
   (I (.inr (.inl s0)))
   (I (.inl (qe .i64 (s0+1)))))
  (I (.inr (.inr s0)))
def QC (a0:Int)(aq:aj)(bS:List UInt8)(s0:Int):bf:=⟨[(1,.fn (.func 119) [] [.ah (aR aq),.ah (.str bS)],En),(5,Iv (-1),En),(7,Iv a0,En),(8,Iv s0,En)],[]⟩
def QD (a0:Int)(aq:aj)(bS:List UInt8):Int⊕Int→jf×bf
 | .inl d=>(.exit 0,⟨[(5,Iv d,En)],[]⟩)
 | .inr d=>(.exit 0,⟨[(1,.fn (.func 119) [] [.ah (aR aq),.ah (.str bS)],En),(5,Iv (-1),En),(7,Iv a0,En),(8,Iv d,En),(9,.bool En,En)],[]⟩)
theorem jp3 (a0:Int)(aq:aj)(bS:List UInt8)(s0:Int)(r)(h:Io a0 aq bS s0=I r):jz pr wz (QC a0 aq bS) (QD a0 aq bS) s0 r:=by
 unfold Io at h
 repeat' first|(replace h:=qb h;obtain⟨d,g,h⟩:=h;with_reducible first|replace g:=zc4 [] g|skip)|(replace h:=qd h;rcases h with⟨g,h⟩|⟨g,h⟩)
 all_goals (cases h<;>((first|refine qz ?_|refine jp ?_);simp only[go_sem,seval,wz,QC,QD, *]<;>rfl))
theorem jrb (a0:Int)(aq:aj)(bS:List UInt8){s0 d}(h:bm (Io a0 aq bS) s0=I d):X pr (.loop wz) (QC a0 aq bS s0)=I (QD a0 aq bS d):=zj (jp3 a0 aq bS) h
def Il (a0:Int)(aq:aj)(bS:List UInt8):Option Int:=
 qa (bm (Io a0 aq bS) 0) fun d13=>match d13 with
  | .inl d15=>
   I d15
  | .inr d16=>
   I (-1)
theorem j58 {a0 aq bS r}(h:Il a0 aq bS=I r):qc pr (X pr) 118 [Iv a0,.fn (.func 119) [] [.ah (aR aq),.ah (.str bS)]]=I (Iv r,En):=by
 unfold Il at h
 refine zh lv ?_
 repeat' first|(replace h:=qb h;obtain⟨d,g,h⟩:=h;with_reducible first|(replace g:=jrb a0 aq bS g;rcases d with d|d<;>dsimp only[QC,QD,zk]at g h)|skip)|(replace h:=qd h;rcases h with⟨g,h⟩|⟨g,h⟩)
 all_goals (cases h<;>(simp only[go_sem,seval,lv, *];exact⟨_,rfl⟩))
def f64 (a0:aj)(a1:List UInt8):Option Int:=
 qa (Il ((a0.lots.getD []).length:Int) a0 a1) fun v1=>
 I v1
theorem C9 {a0 a1 r}(h:f64 a0 a1=I r):qc pr (X pr) 64 [aR a0,.str a1]=I (Iv r,En):=by
 unfold f64 at h
 refine zh KF ?_
 repeat' first|(replace h:=qb h;obtain⟨d,g,h⟩:=h;with_reducible first|replace g:=j58 g|skip)|(replace h:=qd h;rcases h with⟨g,h⟩|⟨g,h⟩)
 all_goals (cases h<;>(simp only[go_sem,seval,KF, *];exact⟨_,rfl⟩))
def f206 (a0:Int)(a1:aj)(a2:List UInt8):Option Bool:=
 qa (qr (a1.ae.getD []) a0) fun v1=>
 I (decide (v1.name=a2))
theorem zdy (hp:qh){a0 a1 a2 r}(h:f206 a0 a1 a2=I r):qm pr (X pr) 206 [Iv a0,.ah (aR a1),.ah (.str a2)] hp=I (.bool r,En,hp):=by
 unfold f206 at h
 obtain⟨v1,h2,h⟩:=qb h
 have hr:decide (v1.name=a2)=r:=I.inj h
 subst hr
 rw[qn (show pr.bQ 206=I uk from rfl) (by simp)]
 simp only[go_sem,seval,uk,yb h2]<;>rfl
def Iq (a0:Int)(aq:aj)(bS:List UInt8)(s0:Int):Option (Int⊕(Int⊕Int)):=
 cond (decide (s0<a0))
  (qa (f206 s0 aq bS) fun v10=>
  cond v10
   (I (.inr (.inl s0)))
   (I (.inl (qe .i64 (s0+1)))))
  (I (.inr (.inr s0)))
def QE (a0:Int)(aq:aj)(bS:List UInt8)(s0:Int):bf:=⟨[(1,.fn (.func 206) [] [.ah (aR aq),.ah (.str bS)],En),(5,Iv (-1),En),(7,Iv a0,En),(8,Iv s0,En)],[]⟩
def QF (a0:Int)(aq:aj)(bS:List UInt8):Int⊕Int→jf×bf
 | .inl d=>(.exit 0,⟨[(5,Iv d,En)],[]⟩)
 | .inr d=>(.exit 0,⟨[(1,.fn (.func 206) [] [.ah (aR aq),.ah (.str bS)],En),(5,Iv (-1),En),(7,Iv a0,En),(8,Iv d,En),(9,.bool En,En)],[]⟩)
theorem jpp (a0:Int)(aq:aj)(bS:List UInt8)(s0:Int)(r)(h:Iq a0 aq bS s0=I r):jz pr wz (QE a0 aq bS) (QF a0 aq bS) s0 r:=by
 unfold Iq at h
 repeat' first|(replace h:=qb h;obtain⟨d,g,h⟩:=h;with_reducible first|replace g:=zdy [] g|skip)|(replace h:=qd h;rcases h with⟨g,h⟩|⟨g,h⟩)
 all_goals (cases h<;>((first|refine qz ?_|refine jp ?_);simp only[go_sem,seval,wz,QE,QF, *]<;>rfl))
theorem jql (a0:Int)(aq:aj)(bS:List UInt8){s0 d}(h:bm (Iq a0 aq bS) s0=I d):X pr (.loop wz) (QE a0 aq bS s0)=I (QF a0 aq bS d):=zj (jpp a0 aq bS) h
def Ip (a0:Int)(aq:aj)(bS:List UInt8):Option Int:=
 qa (bm (Iq a0 aq bS) 0) fun d13=>match d13 with
  | .inl d15=>
   I d15
  | .inr d16=>
   I (-1)
theorem j5x {a0 aq bS r}(h:Ip a0 aq bS=I r):qc pr (X pr) 118 [Iv a0,.fn (.func 206) [] [.ah (aR aq),.ah (.str bS)]]=I (Iv r,En):=by
 unfold Ip at h
 refine zh lv ?_
 repeat' first|(replace h:=qb h;obtain⟨d,g,h⟩:=h;with_reducible first|(replace g:=jql a0 aq bS g;rcases d with d|d<;>dsimp only[QE,QF,zk]at g h)|skip)|(replace h:=qd h;rcases h with⟨g,h⟩|⟨g,h⟩)
 all_goals (cases h<;>(simp only[go_sem,seval,lv, *];exact⟨_,rfl⟩))
def oC (a0:aj)(a1:List UInt8):Option Int:=
 qa (Ip ((a0.ae.getD []).length:Int) a0 a1) fun v1=>
 I v1
theorem wy {a0 a1 r}(h:oC a0 a1=I r):qc pr (X pr) 161 [aR a0,.str a1]=I (Iv r,En):=by
 unfold oC at h
 refine zh ul ?_
 repeat' first|(replace h:=qb h;obtain⟨d,g,h⟩:=h;with_reducible first|replace g:=j5x g|skip)|(replace h:=qd h;rcases h with⟨g,h⟩|⟨g,h⟩)
 all_goals (cases h<;>(simp only[go_sem,seval,ul, *];exact⟨_,rfl⟩))
def Ni (a0:Int)(a1:aj)(a2:List UInt8):Option Bool:=
 qa (qr (a1.units.getD []) a0) fun v1=>
 I (decide (v1.name=a2))
theorem zii (hp:qh){a0 a1 a2 r}(h:Ni a0 a1 a2=I r):qm pr (X pr) 124 [Iv a0,.ah (aR a1),.ah (.str a2)] hp=I (.bool r,En,hp):=by
 unfold Ni at h
 obtain⟨v1,h2,h⟩:=qb h
 have hr:decide (v1.name=a2)=r:=I.inj h
 subst hr
 rw[qn (show pr.bQ 124=I um from rfl) (by simp)]
 simp only[go_sem,seval,um,yb h2]<;>rfl
def Iu (a0:Int)(aq:aj)(bS:List UInt8)(s0:Int):Option (Int⊕(Int⊕Int)):=
 cond (decide (s0<a0))
  (qa (Ni s0 aq bS) fun v10=>
  cond v10
   (I (.inr (.inl s0)))
   (I (.inl (qe .i64 (s0+1)))))
  (I (.inr (.inr s0)))
def QG (a0:Int)(aq:aj)(bS:List UInt8)(s0:Int):bf:=⟨[(1,.fn (.func 124) [] [.ah (aR aq),.ah (.str bS)],En),(5,Iv (-1),En),(7,Iv a0,En),(8,Iv s0,En)],[]⟩
def QH (a0:Int)(aq:aj)(bS:List UInt8):Int⊕Int→jf×bf
 | .inl d=>(.exit 0,⟨[(5,Iv d,En)],[]⟩)
 | .inr d=>(.exit 0,⟨[(1,.fn (.func 124) [] [.ah (aR aq),.ah (.str bS)],En),(5,Iv (-1),En),(7,Iv a0,En),(8,Iv d,En),(9,.bool En,En)],[]⟩)
theorem jp4 (a0:Int)(aq:aj)(bS:List UInt8)(s0:Int)(r)(h:Iu a0 aq bS s0=I r):jz pr wz (QG a0 aq bS) (QH a0 aq bS) s0 r:=by
 unfold Iu at h
 repeat' first|(replace h:=qb h;obtain⟨d,g,h⟩:=h;with_reducible first|replace g:=zii [] g|skip)|(replace h:=qd h;rcases h with⟨g,h⟩|⟨g,h⟩)
 all_goals (cases h<;>((first|refine qz ?_|refine jp ?_);simp only[go_sem,seval,wz,QG,QH, *]<;>rfl))
theorem jqq (a0:Int)(aq:aj)(bS:List UInt8){s0 d}(h:bm (Iu a0 aq bS) s0=I d):X pr (.loop wz) (QG a0 aq bS s0)=I (QH a0 aq bS d):=zj (jp4 a0 aq bS) h
def Ir (a0:Int)(aq:aj)(bS:List UInt8):Option Int:=
 qa (bm (Iu a0 aq bS) 0) fun d13=>match d13 with
  | .inl d15=>
   I d15
  | .inr d16=>
   I (-1)
theorem j9b {a0 aq bS r}(h:Ir a0 aq bS=I r):qc pr (X pr) 118 [Iv a0,.fn (.func 124) [] [.ah (aR aq),.ah (.str bS)]]=I (Iv r,En):=by
 unfold Ir at h
 refine zh lv ?_
 repeat' first|(replace h:=qb h;obtain⟨d,g,h⟩:=h;with_reducible first|(replace g:=jqq a0 aq bS g;rcases d with d|d<;>dsimp only[QG,QH,zk]at g h)|skip)|(replace h:=qd h;rcases h with⟨g,h⟩|⟨g,h⟩)
 all_goals (cases h<;>(simp only[go_sem,seval,lv, *];exact⟨_,rfl⟩))
def f76 (a0:aj)(a1:List UInt8):Option Int:=
 qa (Ir ((a0.units.getD []).length:Int) a0 a1) fun v1=>
 I v1
theorem xY {a0 a1 r}(h:f76 a0 a1=I r):qc pr (X pr) 76 [aR a0,.str a1]=I (Iv r,En):=by
 unfold f76 at h
 refine zh KG ?_
 repeat' first|(replace h:=qb h;obtain⟨d,g,h⟩:=h;with_reducible first|replace g:=j9b g|skip)|(replace h:=qd h;rcases h with⟨g,h⟩|⟨g,h⟩)
 all_goals (cases h<;>(simp only[go_sem,seval,KG, *];exact⟨_,rfl⟩))
def Fv (a0:aj)(a1:Int)(a2:List UInt8):Option Bool:=
 cond (decide (a1=108))
  (qa (f64 a0 a2) fun v2=>
  I (decide (0≤v2)))
  (cond (decide (a1=112))
   (qa (oC a0 a2) fun v5=>
   I (decide (0≤v5)))
   (cond (decide (a1=117))
    (qa (f76 a0 a2) fun v8=>
    I (decide (0≤v8)))
    (I Ey)))
theorem jur {a0 a1 a2 r}(h:Fv a0 a1 a2=I r):qc pr (X pr) 167 [aR a0,.int .i32 a1,.str a2]=I (.bool r,En):=by
 unfold Fv at h
 refine zh uo ?_
 repeat' first|(replace h:=qb h;obtain⟨d,g,h⟩:=h;with_reducible first|replace g:=C9 g|replace g:=wy g|replace g:=xY g|skip)|(replace h:=qd h;rcases h with⟨g,h⟩|⟨g,h⟩)
 all_goals (cases h<;>(simp only[go_sem,seval,uo, *];exact⟨_,rfl⟩))
def Ff (a0:aS):Option Int:=
 I ((a0.aM.getD []).length:Int)
theorem jte {a0 r}(h:Ff a0=I r):qc pr (X pr) 162 [aP a0]=I (Iv r,En):=by
 unfold Ff at h
 have hr:((a0.aM.getD []).length:Int)=r:=I.inj h
 subst hr
 have this:∃hh,qm pr (X pr) 162 [aP a0] []=I (Lv a0.aM,En,hh):=by
  rw[qn (show pr.bQ 162=I uq from rfl) (by simp)]
  simp only[go_sem,seval,uq]
  exact⟨_,rfl⟩
 obtain⟨hh,this⟩:=this
 exact yd rfl this (by first|rfl|simp only[go_sem,seval]) (by first|rfl|simp only[go_sem,seval])
def Fc (a0:aj)(a1:ay):Option Int:=
 qa (oC a0 a1.product) fun v1=>
 qa (qr (a0.ae.getD []) v1) fun v3=>
 qa (Ff v3) fun v5=>
 I v5
theorem juw {a0 a1 r}(h:Fc a0 a1=I r):qc pr (X pr) 132 [aR a0,aU a1]=I (Iv r,En):=by
 unfold Fc at h
 refine zh ur ?_
 repeat' first|(replace h:=qb h;obtain⟨d,g,h⟩:=h;with_reducible first|replace g:=wy g|replace g:=jte g|skip)|(replace h:=qd h;rcases h with⟨g,h⟩|⟨g,h⟩)
 all_goals (cases h<;>(simp only[go_sem,seval,ur,jg, *];exact⟨_,rfl⟩))
def pY (a0:aj)(a1:ay):Option bL:=
 qa (oC a0 a1.product) fun v1=>
 qa (qr (a0.ae.getD []) v1) fun v3=>
 qa (qr (v3.aM.getD []) (qe .i64 (a1.version-1))) fun v5=>
 I v5
theorem P2 {a0 a1 r}(h:pY a0 a1=I r):qc pr (X pr) 126 [aR a0,aU a1]=I (aD r,En):=by
 unfold pY at h
 refine zh uv ?_
 repeat' first|(replace h:=qb h;obtain⟨d,g,h⟩:=h;with_reducible first|replace g:=wy g|skip)|(replace h:=qd h;rcases h with⟨g,h⟩|⟨g,h⟩)
 all_goals (cases h<;>(simp only[go_sem,seval,uv,jg, *];exact⟨_,rfl⟩))
def Cb (a0:ay)(a1:je)(s0:Int×(List UInt8)×Int×Int):Option ((Int×(List UInt8)×Int×Int)⊕((Int×(List UInt8)×Int×Int))):=
 cond (decide (s0.1<((a0.results.getD []).length:Int)))
  (qa (qr (a0.results.getD []) s0.1) fun v12=>
  cond (decide (v12.k=a1.k))
   (cond (decide (v12.a=a0.version))
    (I (.inl (qe .i64 (s0.1+1),v12.k,v12.a,v12.b)))
    (I (.inl (qe .i64 (s0.1+1),s0.2.1,s0.2.2.1,s0.2.2.2))))
   (I (.inl (qe .i64 (s0.1+1),s0.2.1,s0.2.2.1,s0.2.2.2))))
  (I (.inr (s0.1,s0.2.1,s0.2.2.1,s0.2.2.2)))
def QI (a0:ay)(a1:je)(s0:Int×(List UInt8)×Int×Int):bf:=⟨[(2,.ah (aU a0),En),(3,.ah (aT a1),En),(5,.ptr 0 0,En),(10,sl 3 ja a0.results,En),(11,Lv a0.results,En),(12,Iv s0.1,En)],[.cells [(.str s0.2.1,En),(Iv s0.2.2.1,En),(Iv s0.2.2.2,En)]]⟩
def QJ (a0:ay)(a1:je)(d:(Int×(List UInt8)×Int×Int)):jf×bf:=(.exit 0,⟨[(2,.ah (aU a0),En),(3,.ah (aT a1),En),(5,.ptr 0 0,En),(10,sl 3 ja a0.results,En),(11,Lv a0.results,En),(12,Iv d.1,En),(13,.bool En,En)],[.cells [(.str d.2.1,En),(Iv d.2.2.1,En),(Iv d.2.2.2,En)]]⟩)
theorem jyp (a0:ay)(a1:je)(s0:Int×(List UInt8)×Int×Int)(r)(h:Cb a0 a1 s0=I r):jz pr QK (QI a0 a1) (QJ a0 a1) s0 r:=by
 unfold Cb at h
 repeat' first|(replace h:=qb h;obtain⟨d,g,h⟩:=h)|(replace h:=qd h;rcases h with⟨g,h⟩|⟨g,h⟩)
 all_goals (cases h<;>((first|refine qz ?_|refine jp ?_);simp only[go_sem,seval,QK,QI,jg,QJ, *]<;>rfl))
theorem jyu (a0:ay)(a1:je){s0 d}(h:bm (Cb a0 a1) s0=I d):X pr (.loop QK) (QI a0 a1 s0)=I (QJ a0 a1 d):=zj (jyp a0 a1) h
def Ix (a0:ay)(a1:je):Option Bool:=
 qa (bm (Cb a0 a1) (0,[],(-1),0)) fun d16=>
 cond (decide (d16.2.1=[])&&decide (d16.2.2.1=(-1))&&decide (d16.2.2.2=0))
  (I En)
  (cond (decide (a1.a≤d16.2.2.2))
   (I (decide (d16.2.2.2≤a1.b)))
   (I En))
theorem zfa {a0 a1 r}(h:Ix a0 a1=I r):qc pr (X pr) 128 [aU a0,aT a1]=I (.bool r,En):=by
 unfold Ix at h
 refine zh uw ?_
 repeat' first|(replace h:=qb h;obtain⟨d,g,h⟩:=h;with_reducible first|(replace g:=jyu a0 a1 g;dsimp only[QI,QJ,zk]at g h)|skip)|(replace h:=qd h;rcases h with⟨g,h⟩|⟨g,h⟩)
 all_goals (cases h<;>(simp only[go_sem,seval,uw, *];exact⟨_,rfl⟩))
def IB (a0:je)(a1:ay):Option Bool:=
 qa (Ix a1 a0) fun v1=>
 I (!v1)
theorem zf6 (hp:qh){a0 a1 r}(h:IB a0 a1=I r):qm pr (X pr) 127 [aT a0,.ah (aU a1)] hp=I (.bool r,En,hp):=by
 unfold IB at h
 obtain⟨v1,h2,h⟩:=qb h
 have sX:qc pr (X pr) 128 [aU a1,aT a0]=I (.bool v1,En):=zfa h2
 have hr:(!v1)=r:=I.inj h
 subst hr
 rw[qn (show pr.bQ 127=I ux from rfl) (by simp)]
 simp only[go_sem,seval,ux,sX]<;>rfl
def IA (a0:Option (List je))(aq:ay)(s0:(Option (List je))×Int×Bool):Option (((Option (List je))×Int×Bool)⊕(((Option (List je))×Bool×Int))):=
 cond (decide (s0.2.1<((a0.getD []).length:Int)))
  (qa (qr (a0.getD []) s0.2.1) fun v20=>
  qa (IB v20 aq) fun v22=>
  cond v22
   (cond s0.2.2
    (qa (bH s0.1 [v20]) fun v26=>
    I (.inl (v26,qe .i64 (s0.2.1+1),Ey)))
    (cond s0.1.isNone
     (qa (bH s0.1 [v20]) fun ik=>
     I (.inl (ik,qe .i64 (s0.2.1+1),Ey)))
     (Gn)))
   (I (.inl (s0.1,qe .i64 (s0.2.1+1),s0.2.2))))
  (I (.inr (s0.1,s0.2.2,s0.2.1)))
def QL (a0:Option (List je))(aq:ay)(s0:(Option (List je))×Int×Bool):bf:=⟨[(1,.fn (.func 127) [] [.ah (aU aq)],En),(5,sl 3 ja s0.1,s0.2.2),(8,sl 3 ja a0,En),(9,Lv a0,En),(10,Iv s0.2.1,En)],[]⟩
def QM (a0:Option (List je))(aq:ay)(d:((Option (List je))×Bool×Int)):jf×bf:=(.exit 0,⟨[(1,.fn (.func 127) [] [.ah (aU aq)],En),(5,sl 3 ja d.1,d.2.1),(8,sl 3 ja a0,En),(9,Lv a0,En),(10,Iv d.2.2,En),(11,.bool En,En)],[]⟩)
theorem jtt (a0:Option (List je))(aq:ay)(s0:(Option (List je))×Int×Bool)(r)(h:IA a0 aq s0=I r):jz pr QN (QL a0 aq) (QM a0 aq) s0 r:=by
 unfold IA at h
 repeat' first|(replace h:=qb h;obtain⟨d,g,h⟩:=h;with_reducible first|replace g:=zf6 [] g|replace g:=E6 g|skip)|(replace h:=qd h;rcases h with⟨g,h⟩|⟨g,h⟩)
 all_goals (cases h<;>((first|refine qz ?_|refine jp ?_);simp only[go_sem,seval,QN,QL,jg,QM, *]<;>rfl))
theorem juy (a0:Option (List je))(aq:ay){s0 d}(h:bm (IA a0 aq) s0=I d):X pr (.loop QN) (QL a0 aq s0)=I (QM a0 aq d):=zj (jtt a0 aq) h
def Iz (a0:Option (List je))(aq:ay):Option ((Option (List je))×Bool):=
 qa (bm (IA a0 aq) (Gn,0,En)) fun d31=>
 I (d31.1,d31.2.1)
theorem zkw {a0 aq r}(h:Iz a0 aq=I r):qc pr (X pr) 125 [sl 3 ja a0,.fn (.func 127) [] [.ah (aU aq)]]=I (sl 3 ja r.1,r.2):=by
 unfold Iz at h
 refine yv uy ?_
 repeat' first|(replace h:=qb h;obtain⟨d,g,h⟩:=h;with_reducible first|(replace g:=juy a0 aq g;dsimp only[QL,QM,zk]at g h)|skip)|(replace h:=qd h;rcases h with⟨g,h⟩|⟨g,h⟩)
 all_goals (cases h<;>(simp only[go_sem,seval,uy, *];exact⟨_,rfl⟩))
def Nn (a0:je):Option (List UInt8):=
 I a0.k
theorem zhh (hp:qh){a0 r}(h:Nn a0=I r):qm pr (X pr) 130 [aT a0] hp=I (.str r,En,hp):=by
 unfold Nn at h
 have hr:a0.k=r:=I.inj h
 subst hr
 rw[qn (show pr.bQ 130=I uz from rfl) (by simp)]
 simp only[go_sem,seval,uz]<;>rfl
def IC (a0:Option (List je))(s0:(Option (List (List UInt8)))×Int×Bool):Option (((Option (List (List UInt8)))×Int×Bool)⊕(((Option (List (List UInt8)))×Bool×Int))):=
 cond (decide (s0.2.1<((a0.getD []).length:Int)))
  (qa (qr (a0.getD []) s0.2.1) fun jK=>
  qa (Nn jK) fun v20=>
  cond s0.2.2
   (qa (bH s0.1 [v20]) fun v23=>
   I (.inl (v23,qe .i64 (s0.2.1+1),Ey)))
   (cond s0.1.isNone
    (qa (bH s0.1 [v20]) fun v26=>
    I (.inl (v26,qe .i64 (s0.2.1+1),Ey)))
    (Gn)))
  (I (.inr (s0.1,s0.2.2,s0.2.1)))
def QO (a0:Option (List je))(s0:(Option (List (List UInt8)))×Int×Bool):bf:=⟨[(1,.fn (.func 130) [] [],En),(5,sl 1 j9 s0.1,s0.2.2),(8,sl 3 ja a0,En),(9,Lv a0,En),(10,Iv s0.2.1,En)],[]⟩
def QP (a0:Option (List je))(d:((Option (List (List UInt8)))×Bool×Int)):jf×bf:=(.exit 0,⟨[(1,.fn (.func 130) [] [],En),(5,sl 1 j9 d.1,d.2.1),(8,sl 3 ja a0,En),(9,Lv a0,En),(10,Iv d.2.2,En),(11,.bool En,En)],[]⟩)
theorem jzm (a0:Option (List je))(s0:(Option (List (List UInt8)))×Int×Bool)(r)(h:IC a0 s0=I r):jz pr QQ (QO a0) (QP a0) s0 r:=by
 unfold IC at h
 repeat' first|(replace h:=qb h;obtain⟨d,g,h⟩:=h;with_reducible first|replace g:=zhh [] g|replace g:=M8 g|skip)|(replace h:=qd h;rcases h with⟨g,h⟩|⟨g,h⟩)
 all_goals (cases h<;>((first|refine qz ?_|refine jp ?_);simp only[go_sem,seval,QQ,QO,jg,QP, *]<;>rfl))
theorem jzg (a0:Option (List je)){s0 d}(h:bm (IC a0) s0=I d):X pr (.loop QQ) (QO a0 s0)=I (QP a0 d):=zj (jzm a0) h
def f129 (a0:Option (List je)):Option ((Option (List (List UInt8)))×Bool):=
 qa (bm (IC a0) (Gn,0,En)) fun d28=>
 I (d28.1,d28.2.1)
theorem zg2 {a0 r}(h:f129 a0=I r):qc pr (X pr) 129 [sl 3 ja a0,.fn (.func 130) [] []]=I (sl 1 j9 r.1,r.2):=by
 unfold f129 at h
 refine yv uA ?_
 repeat' first|(replace h:=qb h;obtain⟨d,g,h⟩:=h;with_reducible first|(replace g:=jzg a0 g;dsimp only[QO,QP,zk]at g h)|skip)|(replace h:=qd h;rcases h with⟨g,h⟩|⟨g,h⟩)
 all_goals (cases h<;>(simp only[go_sem,seval,uA, *];exact⟨_,rfl⟩))
def f78 (a0:aj)(a1:ay):Option ((Option (List (List UInt8)))×Bool):=
 qa (pY a0 a1) fun v1=>
 qa (Iz v1.az a1) fun v3=>
 qa (f129 v3.1) fun v5=>
 I (v5.1,v5.2)
theorem W78 {a0 a1 r}(h:f78 a0 a1=I r):qc pr (X pr) 78 [aR a0,aU a1]=I (sl 1 j9 r.1,r.2):=by
 unfold f78 at h
 refine yv KH ?_
 repeat' first|(replace h:=qb h;obtain⟨d,g,h⟩:=h;with_reducible first|replace g:=P2 g|replace g:=zkw g|replace g:=zg2 g|skip)|(replace h:=qd h;rcases h with⟨g,h⟩|⟨g,h⟩)
 all_goals (cases h<;>(simp only[go_sem,seval,KH, *];exact⟨_,rfl⟩))
def NM (a0:bq):Option (List UInt8):=
 I a0.k
theorem zh6 (hp:qh){a0 r}(h:NM a0=I r):qm pr (X pr) 122 [aN a0] hp=I (.str r,En,hp):=by
 unfold NM at h
 have hr:a0.k=r:=I.inj h
 subst hr
 rw[qn (show pr.bQ 122=I uC from rfl) (by simp)]
 simp only[go_sem,seval,uC]<;>rfl
def JD (a0:Option (List bq))(s0:(Option (List (List UInt8)))×Int×Bool):Option (((Option (List (List UInt8)))×Int×Bool)⊕(((Option (List (List UInt8)))×Bool×Int))):=
 cond (decide (s0.2.1<((a0.getD []).length:Int)))
  (qa (qr (a0.getD []) s0.2.1) fun jK=>
  qa (NM jK) fun v20=>
  cond s0.2.2
   (qa (bH s0.1 [v20]) fun v23=>
   I (.inl (v23,qe .i64 (s0.2.1+1),Ey)))
   (cond s0.1.isNone
    (qa (bH s0.1 [v20]) fun v26=>
    I (.inl (v26,qe .i64 (s0.2.1+1),Ey)))
    (Gn)))
  (I (.inr (s0.1,s0.2.2,s0.2.1)))
def QR (a0:Option (List bq))(s0:(Option (List (List UInt8)))×Int×Bool):bf:=⟨[(1,.fn (.func 122) [] [],En),(5,sl 1 j9 s0.1,s0.2.2),(8,sl 2 bn a0,En),(9,Lv a0,En),(10,Iv s0.2.1,En)],[]⟩
def QS (a0:Option (List bq))(d:((Option (List (List UInt8)))×Bool×Int)):jf×bf:=(.exit 0,⟨[(1,.fn (.func 122) [] [],En),(5,sl 1 j9 d.1,d.2.1),(8,sl 2 bn a0,En),(9,Lv a0,En),(10,Iv d.2.2,En),(11,.bool En,En)],[]⟩)
theorem jyy (a0:Option (List bq))(s0:(Option (List (List UInt8)))×Int×Bool)(r)(h:JD a0 s0=I r):jz pr QT (QR a0) (QS a0) s0 r:=by
 unfold JD at h
 repeat' first|(replace h:=qb h;obtain⟨d,g,h⟩:=h;with_reducible first|replace g:=zh6 [] g|replace g:=M8 g|skip)|(replace h:=qd h;rcases h with⟨g,h⟩|⟨g,h⟩)
 all_goals (cases h<;>((first|refine qz ?_|refine jp ?_);simp only[go_sem,seval,QT,QR,jg,QS, *]<;>rfl))
theorem jv1 (a0:Option (List bq)){s0 d}(h:bm (JD a0) s0=I d):X pr (.loop QT) (QR a0 s0)=I (QS a0 d):=zj (jyy a0) h
def NL (a0:Option (List bq)):Option ((Option (List (List UInt8)))×Bool):=
 qa (bm (JD a0) (Gn,0,En)) fun d28=>
 I (d28.1,d28.2.1)
theorem zkh {a0 r}(h:NL a0=I r):qc pr (X pr) 121 [sl 2 bn a0,.fn (.func 122) [] []]=I (sl 1 j9 r.1,r.2):=by
 unfold NL at h
 refine yv uD ?_
 repeat' first|(replace h:=qb h;obtain⟨d,g,h⟩:=h;with_reducible first|(replace g:=jv1 a0 g;dsimp only[QR,QS,zk]at g h)|skip)|(replace h:=qd h;rcases h with⟨g,h⟩|⟨g,h⟩)
 all_goals (cases h<;>(simp only[go_sem,seval,uD, *];exact⟨_,rfl⟩))
def f67 (a0:ay):Option ((Option (List (List UInt8)))×Bool):=
 qa (NL a0.uses) fun v1=>
 I (v1.1,v1.2)
theorem W67 {a0 r}(h:f67 a0=I r):qc pr (X pr) 67 [aU a0]=I (sl 1 j9 r.1,r.2):=by
 unfold f67 at h
 refine yv KI ?_
 repeat' first|(replace h:=qb h;obtain⟨d,g,h⟩:=h;with_reducible first|replace g:=zkh g|skip)|(replace h:=qd h;rcases h with⟨g,h⟩|⟨g,h⟩)
 all_goals (cases h<;>(simp only[go_sem,seval,KI, *];exact⟨_,rfl⟩))
def FE (a0:ay)(a1:List UInt8):Option Bool:=
 qa (f67 a0) fun v1=>
 qa (f69 v1.1 a1) fun v3=>
 I v3
theorem zdt (hp:qh){a0 a1 r}(h:FE a0 a1=I r):qm pr (X pr) 136 [aU a0,.ah (.str a1)] hp=I (.bool r,En,hp):=by
 unfold FE at h
 rw[qn (show pr.bQ 136=I uE from rfl) (by simp)]
 repeat' first|(replace h:=qb h;obtain⟨d,g,h⟩:=h;with_reducible first|replace g:=W67 g|replace g:=W69 g|skip)|(replace h:=qd h;rcases h with⟨g,h⟩|⟨g,h⟩)
 all_goals (cases h<;>(simp only[go_sem,seval,uE, *]<;>rfl))
def JE (a0:Option (List ay))(aq:List UInt8)(s0:(Option (List ay))×Int×Bool):Option (((Option (List ay))×Int×Bool)⊕(((Option (List ay))×Bool×Int))):=
 cond (decide (s0.2.1<((a0.getD []).length:Int)))
  (qa (qr (a0.getD []) s0.2.1) fun v20=>
  qa (FE v20 aq) fun v22=>
  cond v22
   (cond s0.2.2
    (qa (bH s0.1 [v20]) fun v26=>
    I (.inl (v26,qe .i64 (s0.2.1+1),Ey)))
    (cond s0.1.isNone
     (qa (bH s0.1 [v20]) fun ik=>
     I (.inl (ik,qe .i64 (s0.2.1+1),Ey)))
     (Gn)))
   (I (.inl (s0.1,qe .i64 (s0.2.1+1),s0.2.2))))
  (I (.inr (s0.1,s0.2.2,s0.2.1)))
def QU (a0:Option (List ay))(aq:List UInt8)(s0:(Option (List ay))×Int×Bool):bf:=⟨[(1,.fn (.func 136) [] [.ah (.str aq)],En),(5,sl 8 aY s0.1,s0.2.2),(8,sl 8 aY a0,En),(9,Lv a0,En),(10,Iv s0.2.1,En)],[]⟩
def QV (a0:Option (List ay))(aq:List UInt8)(d:((Option (List ay))×Bool×Int)):jf×bf:=(.exit 0,⟨[(1,.fn (.func 136) [] [.ah (.str aq)],En),(5,sl 8 aY d.1,d.2.1),(8,sl 8 aY a0,En),(9,Lv a0,En),(10,Iv d.2.2,En),(11,.bool En,En)],[]⟩)
theorem j7b (a0:Option (List ay))(aq:List UInt8)(s0:(Option (List ay))×Int×Bool)(r)(h:JE a0 aq s0=I r):jz pr QW (QU a0 aq) (QV a0 aq) s0 r:=by
 unfold JE at h
 repeat' first|(replace h:=qb h;obtain⟨d,g,h⟩:=h;with_reducible first|replace g:=zdt [] g|replace g:=Xt g|skip)|(replace h:=qd h;rcases h with⟨g,h⟩|⟨g,h⟩)
 all_goals (cases h<;>((first|refine qz ?_|refine jp ?_);simp only[go_sem,seval,QW,QU,jg,QV, *]<;>rfl))
theorem j5i (a0:Option (List ay))(aq:List UInt8){s0 d}(h:bm (JE a0 aq) s0=I d):X pr (.loop QW) (QU a0 aq s0)=I (QV a0 aq d):=zj (j7b a0 aq) h
def f70 (a0:Option (List ay))(aq:List UInt8):Option ((Option (List ay))×Bool):=
 qa (bm (JE a0 aq) (Gn,0,En)) fun d31=>
 I (d31.1,d31.2.1)
theorem W70 {a0 aq r}(h:f70 a0 aq=I r):qc pr (X pr) 70 [sl 8 aY a0,.fn (.func 136) [] [.ah (.str aq)]]=I (sl 8 aY r.1,r.2):=by
 unfold f70 at h
 refine yv KJ ?_
 repeat' first|(replace h:=qb h;obtain⟨d,g,h⟩:=h;with_reducible first|(replace g:=j5i a0 aq g;dsimp only[QU,QV,zk]at g h)|skip)|(replace h:=qd h;rcases h with⟨g,h⟩|⟨g,h⟩)
 all_goals (cases h<;>(simp only[go_sem,seval,KJ, *];exact⟨_,rfl⟩))
def f73 (a0:ay):Option (List UInt8):=
 I a0.name
theorem W73 (hp:qh){a0 r}(h:f73 a0=I r):qm pr (X pr) 73 [aU a0] hp=I (.str r,En,hp):=by
 unfold f73 at h
 have hr:a0.name=r:=I.inj h
 subst hr
 rw[qn (show pr.bQ 73=I KK from rfl) (by simp)]
 simp only[go_sem,seval,KK]<;>rfl
def JF (a0:Option (List ay))(s0:(Option (List (List UInt8)))×Int×Bool):Option (((Option (List (List UInt8)))×Int×Bool)⊕(((Option (List (List UInt8)))×Bool×Int))):=
 cond (decide (s0.2.1<((a0.getD []).length:Int)))
  (qa (qr (a0.getD []) s0.2.1) fun jK=>
  qa (f73 jK) fun v20=>
  cond s0.2.2
   (qa (bH s0.1 [v20]) fun v23=>
   I (.inl (v23,qe .i64 (s0.2.1+1),Ey)))
   (cond s0.1.isNone
    (qa (bH s0.1 [v20]) fun v26=>
    I (.inl (v26,qe .i64 (s0.2.1+1),Ey)))
    (Gn)))
  (I (.inr (s0.1,s0.2.2,s0.2.1)))
def QX (a0:Option (List ay))(s0:(Option (List (List UInt8)))×Int×Bool):bf:=⟨[(1,.fn (.func 73) [] [],En),(5,sl 1 j9 s0.1,s0.2.2),(8,sl 8 aY a0,En),(9,Lv a0,En),(10,Iv s0.2.1,En)],[]⟩
def QY (a0:Option (List ay))(d:((Option (List (List UInt8)))×Bool×Int)):jf×bf:=(.exit 0,⟨[(1,.fn (.func 73) [] [],En),(5,sl 1 j9 d.1,d.2.1),(8,sl 8 aY a0,En),(9,Lv a0,En),(10,Iv d.2.2,En),(11,.bool En,En)],[]⟩)
theorem j34 (a0:Option (List ay))(s0:(Option (List (List UInt8)))×Int×Bool)(r)(h:JF a0 s0=I r):jz pr QZ (QX a0) (QY a0) s0 r:=by
 unfold JF at h
 repeat' first|(replace h:=qb h;obtain⟨d,g,h⟩:=h;with_reducible first|replace g:=W73 [] g|replace g:=M8 g|skip)|(replace h:=qd h;rcases h with⟨g,h⟩|⟨g,h⟩)
 all_goals (cases h<;>((first|refine qz ?_|refine jp ?_);simp only[go_sem,seval,QZ,QX,jg,QY, *]<;>rfl))
theorem j1a (a0:Option (List ay)){s0 d}(h:bm (JF a0) s0=I d):X pr (.loop QZ) (QX a0 s0)=I (QY a0 d):=zj (j34 a0) h
def f71 (a0:Option (List ay)):Option ((Option (List (List UInt8)))×Bool):=
 qa (bm (JF a0) (Gn,0,En)) fun d28=>
 I (d28.1,d28.2.1)
theorem W71 {a0 r}(h:f71 a0=I r):qc pr (X pr) 71 [sl 8 aY a0,.fn (.func 73) [] []]=I (sl 1 j9 r.1,r.2):=by
 unfold f71 at h
 refine yv KL ?_
 repeat' first|(replace h:=qb h;obtain⟨d,g,h⟩:=h;with_reducible first|(replace g:=j1a a0 g;dsimp only[QX,QY,zk]at g h)|skip)|(replace h:=qd h;rcases h with⟨g,h⟩|⟨g,h⟩)
 all_goals (cases h<;>(simp only[go_sem,seval,KL, *];exact⟨_,rfl⟩))
def f80 (a0:aj)(a1:List UInt8):Option ((Option (List (List UInt8)))×Bool):=
 qa (f70 a0.units a1) fun v1=>
 qa (f71 v1.1) fun v3=>
 I (v3.1,v3.2)
theorem W80 {a0 a1 r}(h:f80 a0 a1=I r):qc pr (X pr) 80 [aR a0,.str a1]=I (sl 1 j9 r.1,r.2):=by
 unfold f80 at h
 refine yv KM ?_
 repeat' first|(replace h:=qb h;obtain⟨d,g,h⟩:=h;with_reducible first|replace g:=W70 g|replace g:=W71 g|skip)|(replace h:=qd h;rcases h with⟨g,h⟩|⟨g,h⟩)
 all_goals (cases h<;>(simp only[go_sem,seval,KM, *];exact⟨_,rfl⟩))
def Ak (a0:aj)(a1:List UInt8)(s0:Int×Int):Option ((Int×Int)⊕((Int×Int))):=
 cond (decide (s0.2<((a0.lots.getD []).length:Int)))
  (qa (qr (a0.lots.getD []) s0.2) fun v12=>
  cond (decide (v12.kind=a1))
   (cond v12.held
    (I (.inl (s0.1,qe .i64 (s0.2+1))))
    (I (.inl (qe .i64 (s0.1+v12.left),qe .i64 (s0.2+1)))))
   (I (.inl (s0.1,qe .i64 (s0.2+1)))))
  (I (.inr (s0.1,s0.2)))
def Q0 (a0:aj)(a1:List UInt8)(s0:Int×Int):bf:=⟨[(1,.str a1,En),(5,Iv s0.1,En),(9,sl 5 jc a0.lots,En),(10,Lv a0.lots,En),(11,Iv s0.2,En)],[]⟩
def Q5 (a0:aj)(a1:List UInt8)(d:(Int×Int)):jf×bf:=(.exit 0,⟨[(1,.str a1,En),(5,Iv d.1,En),(9,sl 5 jc a0.lots,En),(10,Lv a0.lots,En),(11,Iv d.2,En),(12,.bool En,En)],[]⟩)
theorem j66 (a0:aj)(a1:List UInt8)(s0:Int×Int)(r)(h:Ak a0 a1 s0=I r):jz pr Q6 (Q0 a0 a1) (Q5 a0 a1) s0 r:=by
 unfold Ak at h
 repeat' first|(replace h:=qb h;obtain⟨d,g,h⟩:=h)|(replace h:=qd h;rcases h with⟨g,h⟩|⟨g,h⟩)
 all_goals (cases h<;>((first|refine qz ?_|refine jp ?_);simp only[go_sem,seval,Q6,Q0,jg,Q5, *]<;>rfl))
theorem j3k (a0:aj)(a1:List UInt8){s0 d}(h:bm (Ak a0 a1) s0=I d):X pr (.loop Q6) (Q0 a0 a1 s0)=I (Q5 a0 a1 d):=zj (j66 a0 a1) h
def f82 (a0:aj)(a1:List UInt8):Option Int:=
 qa (bm (Ak a0 a1) (0,0)) fun d16=>
 I d16.1
theorem W82 {a0 a1 r}(h:f82 a0 a1=I r):qc pr (X pr) 82 [aR a0,.str a1]=I (Iv r,En):=by
 unfold f82 at h
 refine zh KN ?_
 repeat' first|(replace h:=qb h;obtain⟨d,g,h⟩:=h;with_reducible first|(replace g:=j3k a0 a1 g;dsimp only[Q0,Q5,zk]at g h)|skip)|(replace h:=qd h;rcases h with⟨g,h⟩|⟨g,h⟩)
 all_goals (cases h<;>(simp only[go_sem,seval,KN, *];exact⟨_,rfl⟩))
end Go.Z
namespace Go.Z
open Go Go.Abs Go.W
def f268 (a0:Option (List jd)):Option ((Option (List jd))×Bool):=
 cond a0.isNone
  (I (Gn,En))
  (qa (bH (I []) (a0.getD [])) fun v2=>
  I (v2,Ey))
theorem zec {a0 r}(h:f268 a0=I r):qc pr (X pr) 268 [sl 5 jc a0]=I (sl 5 jc r.1,r.2):=by
 unfold f268 at h
 refine yv uF ?_
 repeat' first|(replace h:=qb h;obtain⟨d,g,h⟩:=h)|(replace h:=qd h;rcases h with⟨g,h⟩|⟨g,h⟩)
 all_goals (cases h<;>(simp only[go_sem,seval,uF,mP, *];exact⟨_,rfl⟩))
def ZB (a0:Option (List aS)):Option ((Option (List aS))×Bool):=
 cond a0.isNone
  (I (Gn,En))
  (qa (bH (I []) (a0.getD [])) fun v2=>
  I (v2,Ey))
theorem zel {a0 r}(h:ZB a0=I r):qc pr (X pr) 269 [sl 4 qv a0]=I (sl 4 qv r.1,r.2):=by
 unfold ZB at h
 refine yv uG ?_
 repeat' first|(replace h:=qb h;obtain⟨d,g,h⟩:=h)|(replace h:=qd h;rcases h with⟨g,h⟩|⟨g,h⟩)
 all_goals (cases h<;>(simp only[go_sem,seval,uG,mP, *];exact⟨_,rfl⟩))
def ZC (a0:Option (List ay)):Option ((Option (List ay))×Bool):=
 cond a0.isNone
  (I (Gn,En))
  (qa (bH (I []) (a0.getD [])) fun v2=>
  I (v2,Ey))
theorem zfv {a0 r}(h:ZC a0=I r):qc pr (X pr) 281 [sl 8 aY a0]=I (sl 8 aY r.1,r.2):=by
 unfold ZC at h
 refine yv uH ?_
 repeat' first|(replace h:=qb h;obtain⟨d,g,h⟩:=h)|(replace h:=qd h;rcases h with⟨g,h⟩|⟨g,h⟩)
 all_goals (cases h<;>(simp only[go_sem,seval,uH,mP, *];exact⟨_,rfl⟩))
def ZD (a0:Option (List bL)):Option ((Option (List bL))×Bool):=
 cond a0.isNone
  (I (Gn,En))
  (qa (bH (I []) (a0.getD [])) fun v2=>
  I (v2,Ey))
theorem zjy {a0 r}(h:ZD a0=I r):qc pr (X pr) 278 [sl 2 yq a0]=I (sl 2 yq r.1,r.2):=by
 unfold ZD at h
 refine yv uI ?_
 repeat' first|(replace h:=qb h;obtain⟨d,g,h⟩:=h)|(replace h:=qd h;rcases h with⟨g,h⟩|⟨g,h⟩)
 all_goals (cases h<;>(simp only[go_sem,seval,uI,mP, *];exact⟨_,rfl⟩))
def Jf (a0:Option (List bq)):Option ((Option (List bq))×Bool):=
 cond a0.isNone
  (I (Gn,En))
  (qa (bH (I []) (a0.getD [])) fun v2=>
  I (v2,Ey))
theorem jwi {a0 r}(h:Jf a0=I r):qc pr (X pr) 279 [sl 2 bn a0]=I (sl 2 bn r.1,r.2):=by
 unfold Jf at h
 refine yv uJ ?_
 repeat' first|(replace h:=qb h;obtain⟨d,g,h⟩:=h)|(replace h:=qd h;rcases h with⟨g,h⟩|⟨g,h⟩)
 all_goals (cases h<;>(simp only[go_sem,seval,uJ,mP, *];exact⟨_,rfl⟩))
def Jg (a0:Option (List je)):Option ((Option (List je))×Bool):=
 cond a0.isNone
  (I (Gn,En))
  (qa (bH (I []) (a0.getD [])) fun v2=>
  I (v2,Ey))
theorem jyi {a0 r}(h:Jg a0=I r):qc pr (X pr) 280 [sl 3 ja a0]=I (sl 3 ja r.1,r.2):=by
 unfold Jg at h
 refine yv uK ?_
 repeat' first|(replace h:=qb h;obtain⟨d,g,h⟩:=h)|(replace h:=qd h;rcases h with⟨g,h⟩|⟨g,h⟩)
 all_goals (cases h<;>(simp only[go_sem,seval,uK,mP, *];exact⟨_,rfl⟩))
def f285 (a0:Option (List je)):Option ((Option (List je))×Bool):=
 cond a0.isNone
  (I (Gn,En))
  (qa (bH (I []) (a0.getD [])) fun v2=>
  I (v2,Ey))
theorem zhu {a0 r}(h:f285 a0=I r):qc pr (X pr) 285 [sl 3 ja a0]=I (sl 3 ja r.1,r.2):=by
 unfold f285 at h
 refine yv uL ?_
 repeat' first|(replace h:=qb h;obtain⟨d,g,h⟩:=h)|(replace h:=qd h;rcases h with⟨g,h⟩|⟨g,h⟩)
 all_goals (cases h<;>(simp only[go_sem,seval,uL,mP, *];exact⟨_,rfl⟩))
def ZE (a0:Option (List bq)):Option ((Option (List bq))×Bool):=
 cond a0.isNone
  (I (Gn,En))
  (qa (bH (I []) (a0.getD [])) fun v2=>
  I (v2,Ey))
theorem zgh {a0 r}(h:ZE a0=I r):qc pr (X pr) 300 [sl 2 bn a0]=I (sl 2 bn r.1,r.2):=by
 unfold ZE at h
 refine yv uM ?_
 repeat' first|(replace h:=qb h;obtain⟨d,g,h⟩:=h)|(replace h:=qd h;rcases h with⟨g,h⟩|⟨g,h⟩)
 all_goals (cases h<;>(simp only[go_sem,seval,uM,mP, *];exact⟨_,rfl⟩))
def Nr (a0:Option (List jd))(a1:jd):Option (Option (List jd)):=
 qa (f268 a0) fun v1=>
 cond v1.2
  (qa (bH v1.1 [a1]) fun v4=>
  I v4)
  (cond v1.1.isNone
   (qa (bH v1.1 [a1]) fun v7=>
   I v7)
   (Gn))
theorem zlc {a0 a1 r}(h:Nr a0 a1=I r):qc pr (X pr) 209 [sl 5 jc a0,aL a1]=I (sl 5 jc r,Ey):=by
 unfold Nr at h
 refine yv uN ?_
 repeat' first|(replace h:=qb h;obtain⟨d,g,h⟩:=h;with_reducible first|replace g:=zec g|replace g:=Xr g|skip)|(replace h:=qd h;rcases h with⟨g,h⟩|⟨g,h⟩)
 all_goals (cases h<;>(simp only[go_sem,seval,uN, *];exact⟨_,rfl⟩))
def Ns (a0:Option (List aS))(a1:aS):Option (Option (List aS)):=
 qa (ZB a0) fun v1=>
 cond v1.2
  (qa (bH v1.1 [a1]) fun v4=>
  I v4)
  (cond v1.1.isNone
   (qa (bH v1.1 [a1]) fun v7=>
   I v7)
   (Gn))
theorem zfs {a0 a1 r}(h:Ns a0 a1=I r):qc pr (X pr) 210 [sl 4 qv a0,aP a1]=I (sl 4 qv r,Ey):=by
 unfold Ns at h
 refine yv uO ?_
 repeat' first|(replace h:=qb h;obtain⟨d,g,h⟩:=h;with_reducible first|replace g:=zel g|replace g:=q57 g|skip)|(replace h:=qd h;rcases h with⟨g,h⟩|⟨g,h⟩)
 all_goals (cases h<;>(simp only[go_sem,seval,uO, *];exact⟨_,rfl⟩))
def f225 (a0:Option (List ay))(a1:ay):Option (Option (List ay)):=
 qa (ZC a0) fun v1=>
 cond v1.2
  (qa (bH v1.1 [a1]) fun v4=>
  I v4)
  (cond v1.1.isNone
   (qa (bH v1.1 [a1]) fun v7=>
   I v7)
   (Gn))
theorem zjw {a0 a1 r}(h:f225 a0 a1=I r):qc pr (X pr) 225 [sl 8 aY a0,aU a1]=I (sl 8 aY r,Ey):=by
 unfold f225 at h
 refine yv uP ?_
 repeat' first|(replace h:=qb h;obtain⟨d,g,h⟩:=h;with_reducible first|replace g:=zfv g|replace g:=Xt g|skip)|(replace h:=qd h;rcases h with⟨g,h⟩|⟨g,h⟩)
 all_goals (cases h<;>(simp only[go_sem,seval,uP, *];exact⟨_,rfl⟩))
def Nt (a0:Option (List bL))(a1:bL):Option (Option (List bL)):=
 qa (ZD a0) fun v1=>
 cond v1.2
  (qa (bH v1.1 [a1]) fun v4=>
  I v4)
  (cond v1.1.isNone
   (qa (bH v1.1 [a1]) fun v7=>
   I v7)
   (Gn))
theorem zed {a0 a1 r}(h:Nt a0 a1=I r):qc pr (X pr) 223 [sl 2 yq a0,aD a1]=I (sl 2 yq r,Ey):=by
 unfold Nt at h
 refine yv uQ ?_
 repeat' first|(replace h:=qb h;obtain⟨d,g,h⟩:=h;with_reducible first|replace g:=zjy g|replace g:=q9g g|skip)|(replace h:=qd h;rcases h with⟨g,h⟩|⟨g,h⟩)
 all_goals (cases h<;>(simp only[go_sem,seval,uQ, *];exact⟨_,rfl⟩))
def Nu (a0:Option (List bq))(a1:bq):Option (Option (List bq)):=
 qa (Jf a0) fun v1=>
 cond v1.2
  (qa (bH v1.1 [a1]) fun v4=>
  I v4)
  (cond v1.1.isNone
   (qa (bH v1.1 [a1]) fun v7=>
   I v7)
   (Gn))
theorem zkb {a0 a1 r}(h:Nu a0 a1=I r):qc pr (X pr) 273 [sl 2 bn a0,aN a1]=I (sl 2 bn r,Ey):=by
 unfold Nu at h
 refine yv uR ?_
 repeat' first|(replace h:=qb h;obtain⟨d,g,h⟩:=h;with_reducible first|replace g:=jwi g|replace g:=B4 g|skip)|(replace h:=qd h;rcases h with⟨g,h⟩|⟨g,h⟩)
 all_goals (cases h<;>(simp only[go_sem,seval,uR, *];exact⟨_,rfl⟩))
def f277 (a0:Option (List je))(a1:je):Option (Option (List je)):=
 qa (Jg a0) fun v1=>
 cond v1.2
  (qa (bH v1.1 [a1]) fun v4=>
  I v4)
  (cond v1.1.isNone
   (qa (bH v1.1 [a1]) fun v7=>
   I v7)
   (Gn))
theorem zja {a0 a1 r}(h:f277 a0 a1=I r):qc pr (X pr) 277 [sl 3 ja a0,aT a1]=I (sl 3 ja r,Ey):=by
 unfold f277 at h
 refine yv uS ?_
 repeat' first|(replace h:=qb h;obtain⟨d,g,h⟩:=h;with_reducible first|replace g:=jyi g|replace g:=E6 g|skip)|(replace h:=qd h;rcases h with⟨g,h⟩|⟨g,h⟩)
 all_goals (cases h<;>(simp only[go_sem,seval,uS, *];exact⟨_,rfl⟩))
def f284 (a0:Option (List bq))(a1:bq):Option (Option (List bq)):=
 qa (ZE a0) fun v1=>
 cond v1.2
  (qa (bH v1.1 [a1]) fun v4=>
  I v4)
  (cond v1.1.isNone
   (qa (bH v1.1 [a1]) fun v7=>
   I v7)
   (Gn))
theorem zf1 {a0 a1 r}(h:f284 a0 a1=I r):qc pr (X pr) 284 [sl 2 bn a0,aN a1]=I (sl 2 bn r,Ey):=by
 unfold f284 at h
 refine yv uT ?_
 repeat' first|(replace h:=qb h;obtain⟨d,g,h⟩:=h;with_reducible first|replace g:=zgh g|replace g:=B4 g|skip)|(replace h:=qd h;rcases h with⟨g,h⟩|⟨g,h⟩)
 all_goals (cases h<;>(simp only[go_sem,seval,uT, *];exact⟨_,rfl⟩))
def Nv (a0:Option (List je))(a1:je):Option (Option (List je)):=
 qa (f285 a0) fun v1=>
 cond v1.2
  (qa (bH v1.1 [a1]) fun v4=>
  I v4)
  (cond v1.1.isNone
   (qa (bH v1.1 [a1]) fun v7=>
   I v7)
   (Gn))
theorem ze2 {a0 a1 r}(h:Nv a0 a1=I r):qc pr (X pr) 236 [sl 3 ja a0,aT a1]=I (sl 3 ja r,Ey):=by
 unfold Nv at h
 refine yv uU ?_
 repeat' first|(replace h:=qb h;obtain⟨d,g,h⟩:=h;with_reducible first|replace g:=zhu g|replace g:=E6 g|skip)|(replace h:=qd h;rcases h with⟨g,h⟩|⟨g,h⟩)
 all_goals (cases h<;>(simp only[go_sem,seval,uU, *];exact⟨_,rfl⟩))
def f224 (a0:bL):Option bL:=
 qa (Jf a0.aK) fun v1=>
 qa (Jg a0.az) fun v3=>
 I (⟨v1.1,v3.1⟩)
theorem zlu {a0 r}(h:f224 a0=I r):qc pr (X pr) 224 [aD a0]=I (aD r,En):=by
 unfold f224 at h
 refine zh uV ?_
 repeat' first|(replace h:=qb h;obtain⟨d,g,h⟩:=h;with_reducible first|replace g:=jwi g|replace g:=jyi g|skip)|(replace h:=qd h;rcases h with⟨g,h⟩|⟨g,h⟩)
 all_goals (cases h<;>(simp only[go_sem,seval,uV, *];exact⟨_,rfl⟩))
end Go.Z
end
