/- Chapter 10. -/
import Derived.Test.YtfopaakmgogpiaaGreatDoorW6
import Derived.Test.YtfopaakmgogpiaaGreatDoorCA
import Derived.Test.YtfopaakmgogpiaaGreatDoorAbsL
import Derived.Test.YtfopaakmgogpiaaGreatDoorW12
set_option linter.unusedVariables false
set_option linter.unusedSimpArgs false
set_option maxRecDepth 100000
set_option maxHeartbeats 4000000
noncomputable section
namespace Go.Z
open Go Go.Abs Go.W
def f11 (a0:ql):Option Int:=
 jy (f52 a0.number 1 1000) fun v1=>
 jy (f53 (!(qo0 a0.kind)) 13) fun v3=>
 jy (f53 (!(decide (((a0.names.getD []).length:Int)=((kr a0.kind).length:Int))&&decide (((a0.values.getD []).length:Int)=(qfx a0.kind)))) 2) fun v5=>
 jy (f51 (some [v1,v3,v5])) fun v7=>
 cond (decide (v7=0))
  (jy (f54 a0.names) fun v10=>
  jy (f57 a0.values) fun v12=>
  jy (f51 v10.1) fun v14=>
  jy (f51 v12.1) fun v16=>
  jy (f53 (!decide (a0.text=[])) 1) fun v18=>
  jy (f51 (some [v14,v16,v18])) fun v20=>
  some v20)
  (some v7)
theorem W11 {a0:ql}{r}(h:f11 a0=some r):j6 pr (X pr) 11 [.agg [Iv a0.number,.str a0.kind,sl 1 yc a0.names,sl 1 yb a0.values,.str a0.text]]=some (Iv r,false):=by
 unfold f11 at h
 obtain⟨v1,h2,h⟩:=jw h
 have wh2:=W52 h2
 obtain⟨v3,h4,h⟩:=jw h
 have wh4:=W53 h4
 obtain⟨v5,h6,h⟩:=jw h
 have wh6:=W53 h6
 obtain⟨v7,h8,h⟩:=jw h
 have wh8:j6 pr (X pr) 51 [.list false 1 [Iv v1,Iv v3,Iv v5]]=some (Iv v7,false):=W51 h8
 rcases jx h with⟨h9,h⟩|⟨h9,h⟩
 ·obtain⟨v10,h11,h⟩:=jw h
  have wh11:j6 pr (X pr) 54 [sl 1 yc a0.names,.fn (.func 55) [] []]=some (sl 1 yb v10.1,v10.2):=W54 h11
  obtain⟨v12,h13,h⟩:=jw h
  have wh13:j6 pr (X pr) 57 [sl 1 yb a0.values,.fn (.func 58) [] []]=some (sl 1 yb v12.1,v12.2):=W57 h13
  obtain⟨v14,h15,h⟩:=jw h
  have wh15:=W51 h15
  obtain⟨v16,h17,h⟩:=jw h
  have wh17:=W51 h17
  obtain⟨v18,h19,h⟩:=jw h
  have wh19:=W53 h19
  obtain⟨v20,h21,h⟩:=jw h
  have wh21:j6 pr (X pr) 51 [.list false 1 [Iv v14,Iv v16,Iv v18]]=some (Iv v20,false):=W51 h21
  obtain rfl:=oi h
  refine zk c11 ?_
  simp only[go_sem,seval,c11,q6b,wh2,wh4,wh6,wh8,h9,wh11,wh13,wh15,wh17,wh19,wh21]
  exact⟨_,rfl⟩
 obtain rfl:=oi h
 refine zk c11 ?_
 simp only[go_sem,seval,c11,q6b,wh2,wh4,wh6,wh8,h9]
 exact⟨_,rfl⟩
end Go.Z
namespace Go.Z
open Go Go.Abs Go.W
def qg1 (a0:Option (List ql))(s0:(Option (List ql))×(Option (List qc))×Int×Bool×Bool):Option (((Option (List ql))×(Option (List qc))×Int×Bool×Bool)⊕((Int×Int×Int×(Option (List qj))×(Option (List qk))×(Option (List qe)))⊕((Option (List ql))×Bool×(Option (List qc))×Bool×Int))):=
 cond (decide (s0.2.2.1<((a0.getD []).length:Int)))
  (jy (zz (a0.getD []) s0.2.2.1) fun v75=>
  jy (f12 v75) fun v77=>
  cond (decide (v77=0))
   (cond (decide (v75.number=(j8 .i64 (s0.2.2.1+1))))
    (cond (decide (v75.kind=([117,110,100,111]:List UInt8)))
     (cond (decide (((s0.1.getD []).length:Int)=0))
      (some (.inr (.inl (j8 .i64 (s0.2.2.1+1),12,0,none,none,none))))
      (jy (zz (s0.1.getD []) (j8 .i64 (((s0.1.getD []).length:Int)-1))) fun v83=>
      cond (decide (v83.kind=([115,104,105,112]:List UInt8)))
       (some (.inr (.inl (j8 .i64 (s0.2.2.1+1),19,0,none,none,none))))
       (jy (qqo s0.1 none (some (j8 .i64 (((s0.1.getD []).length:Int)-1)))) fun v86=>
       jy (qqo s0.2.1 none (some ((s0.1.getD []).length:Int))) fun v88=>
       some (.inl (v86,v88,j8 .i64 (s0.2.2.1+1),false,false)))))
     (jy (zz (s0.2.1.getD []) ((s0.1.getD []).length:Int)) fun v90=>
     jy (f69 v90 v75) fun v92=>
     cond (decide (v92.2=0))
      (jy (apO (some []) (s0.1.getD [])) fun v95=>
      jy (apO v95 [v75]) fun v97=>
      jy (apO (some []) (s0.2.1.getD [])) fun v99=>
      jy (apO v99 [v92.1]) fun v101=>
      some (.inl (v97,v101,j8 .i64 (s0.2.2.1+1),true,true)))
      (some (.inr (.inl (j8 .i64 (s0.2.2.1+1),v92.2,v92.1.day,v92.1.lots,v92.1.products,v92.1.units))))))
    (some (.inr (.inl (j8 .i64 (s0.2.2.1+1),11,0,none,none,none)))))
   (some (.inr (.inl (j8 .i64 (s0.2.2.1+1),v77,0,none,none,none)))))
  (some (.inr (.inr (s0.1,s0.2.2.2.1,s0.2.1,s0.2.2.2.2,s0.2.2.1))))
def qfv (a0:Option (List ql))(s0:(Option (List ql))×(Option (List qc))×Int×Bool×Bool):qg:=⟨[(0,sl 5 vev a0,false),(3,.ptr 0 0,false),(6,sl 5 vev s0.1,s0.2.2.2.1),(7,sl 4 yr s0.2.1,s0.2.2.2.2),(8,Iv s0.2.2.1,false)],[.cells [(Iv 0,false),(.list true 0 [],false),(.list true 0 [],false),(.list true 0 [],false)]]⟩
def qkq (a0:Option (List ql)):(Int×Int×Int×(Option (List qj))×(Option (List qk))×(Option (List qe)))⊕((Option (List ql))×Bool×(Option (List qc))×Bool×Int)→qn×qg
 | .inl d=>(.ret,⟨[(2,.list true 0 [],false),(3,.ptr 0 0,false),(4,Iv d.1,false),(5,Iv d.2.1,false)],[.cells [(Iv 0,false),(.list true 0 [],false),(.list true 0 [],false),(.list true 0 [],false)],.cells [(Iv d.2.2.1,false),(sl 5 zg d.2.2.2.1,false),(sl 4 za d.2.2.2.2.1,false),(sl 8 vun d.2.2.2.2.2,false)]]⟩)
 | .inr d=>(.exit 0,⟨[(0,sl 5 vev a0,false),(3,.ptr 0 0,false),(6,sl 5 vev d.1,d.2.1),(7,sl 4 yr d.2.2.1,d.2.2.2.1),(8,Iv d.2.2.2.2,false),(21,.bool false,false)],[.cells [(Iv 0,false),(.list true 0 [],false),(.list true 0 [],false),(.list true 0 [],false)]]⟩)
theorem jtn (a0:Option (List ql))(s0:(Option (List ql))×(Option (List qc))×Int×Bool×Bool)(r)(h:qg1 a0 s0=some r):y6 pr qg9 (qfv a0) (qkq a0) s0 r:=by
 unfold qg1 at h
 rcases jx h with⟨h74,h⟩|⟨h74,h⟩
 ·obtain⟨v75,h76,h⟩:=jw h
  obtain⟨v77,h78,h⟩:=jw h
  have wh78:=W12 h78
  rcases jx h with⟨h79,h⟩|⟨h79,h⟩
  ·rcases jx h with⟨h80,h⟩|⟨h80,h⟩
   ·rcases jx h with⟨h81,h⟩|⟨h81,h⟩
    ·rcases jx h with⟨h82,h⟩|⟨h82,h⟩
     ·cases h
      exact zd (by simp only[go_sem,seval,qg9,qfv,h74,jz h76,wh78,h79,h80,h81,h82,qkq]<;>rfl)
     obtain⟨v83,h84,h⟩:=jw h
     rcases jx h with⟨h85,h⟩|⟨h85,h⟩
     ·cases h
      exact zd (by simp only[go_sem,seval,qg9,qfv,h74,jz h76,wh78,h79,h80,h81,h82,jz h84,h85,qkq]<;>rfl)
     obtain⟨v86,h87,h⟩:=jw h
     obtain⟨v88,h89,h⟩:=jw h
     cases h
     exact zq (by simp only[go_sem,seval,qg9,qfv,h74,jz h76,wh78,h79,h80,h81,h82,jz h84,h85,q54 h87,q54 h89]<;>rfl)
    obtain⟨v90,h91,h⟩:=jw h
    obtain⟨v92,h93,h⟩:=jw h
    have wh93:=W69 h93
    rcases jx h with⟨h94,h⟩|⟨h94,h⟩
    ·obtain⟨v95,h96,h⟩:=jw h
     obtain⟨v97,h98,h⟩:=jw h
     obtain⟨v99,h100,h⟩:=jw h
     obtain⟨v101,h102,h⟩:=jw h
     cases h
     exact qoz (by simp only[go_sem,seval,qg9,qfv,h74,jz h76,wh78,h79,h80,h81,jz h91,wh93,h94,qa9 h96,q0q h98,qa9 h100,q7i h102];exact⟨_,rfl⟩) rfl (by first|simp only[go_sem,seval,qfv]|rfl) (by first|simp only[go_sem,seval,qfv]|rfl)
    cases h
    exact zd (by simp only[go_sem,seval,qg9,qfv,h74,jz h76,wh78,h79,h80,h81,jz h91,wh93,h94,qkq]<;>rfl)
   cases h
   exact zd (by simp only[go_sem,seval,qg9,qfv,h74,jz h76,wh78,h79,h80,qkq]<;>rfl)
  cases h
  exact zd (by simp only[go_sem,seval,qg9,qfv,h74,jz h76,wh78,h79,qkq]<;>rfl)
 cases h
 exact zd (by simp only[go_sem,seval,qg9,qfv,h74,qkq]<;>rfl)
theorem jgt (a0:Option (List ql)){s0:(Option (List ql))×(Option (List qc))×Int×Bool×Bool}{d}(h:itO (qg1 a0) s0=some d):X pr (.loop qg9) (qfv a0 s0)=some (qkq a0 d):=km (jtn a0) (fun d=>by rcases d with d|d<;>(intro hh;cases hh)) h
def f49 (a0:Option (List ql)):Option ((Option (List ql))×qc×Int×Int):=
 cond (decide (1000<((a0.getD []).length:Int)))
  (some (none,⟨0,none,none,none⟩,0,5))
  (jy (itO (qg1 a0) (none,some [⟨0,none,none,none⟩],0,false,true)) fun d103=>match d103 with
   | .inl d105=>
    some (none,⟨0,none,none,none⟩,d105.1,d105.2.1)
   | .inr d106=>
    jy (zz (d106.2.2.1.getD []) ((d106.1.getD []).length:Int)) fun v107=>
    some (d106.1,v107,0,0))
theorem W49 {a0:Option (List ql)}{r}(h:f49 a0=some r):j6 pr (X pr) 49 [sl 5 vev a0]=some (.tup [sl 5 vev r.1,.agg [Iv r.2.1.day,sl 5 zg r.2.1.lots,sl 4 za r.2.1.products,sl 8 vun r.2.1.units],Iv r.2.2.1,Iv r.2.2.2],false):=by
 unfold f49 at h
 rcases jx h with⟨h1,h⟩|⟨h1,h⟩
 ·obtain rfl:=oi h
  refine zk c49 ?_
  simp only[go_sem,seval,c49,h1]
  exact⟨_,rfl⟩
 obtain⟨d103,h104,h⟩:=jw h
 rcases d103 with d105|d106
 ·have wh104:X pr (.loop qg9) ⟨[(0,sl 5 vev a0,false),(3,.ptr 0 0,false),(6,.list true 0 [],false),(7,.list false 4 [.agg [Iv 0,.list true 0 [],.list true 0 [],.list true 0 []]],true),(8,Iv 0,false)],[.cells [(Iv 0,false),(.list true 0 [],false),(.list true 0 [],false),(.list true 0 [],false)]]⟩=some (.ret,⟨[(2,.list true 0 [],false),(3,.ptr 0 0,false),(4,Iv d105.1,false),(5,Iv d105.2.1,false)],[.cells [(Iv 0,false),(.list true 0 [],false),(.list true 0 [],false),(.list true 0 [],false)],.cells [(Iv d105.2.2.1,false),(sl 5 zg d105.2.2.2.1,false),(sl 4 za d105.2.2.2.2.1,false),(sl 8 vun d105.2.2.2.2.2,false)]]⟩):=jgt a0 h104
  obtain rfl:=oi h
  refine zk c49 ?_
  simp only[go_sem,seval,c49,h1,wh104]
  exact⟨_,rfl⟩
 have wh104:X pr (.loop qg9) ⟨[(0,sl 5 vev a0,false),(3,.ptr 0 0,false),(6,.list true 0 [],false),(7,.list false 4 [.agg [Iv 0,.list true 0 [],.list true 0 [],.list true 0 []]],true),(8,Iv 0,false)],[.cells [(Iv 0,false),(.list true 0 [],false),(.list true 0 [],false),(.list true 0 [],false)]]⟩=some (.exit 0,⟨[(0,sl 5 vev a0,false),(3,.ptr 0 0,false),(6,sl 5 vev d106.1,d106.2.1),(7,sl 4 yr d106.2.2.1,d106.2.2.2.1),(8,Iv d106.2.2.2.2,false),(21,.bool false,false)],[.cells [(Iv 0,false),(.list true 0 [],false),(.list true 0 [],false),(.list true 0 [],false)]]⟩):=jgt a0 h104
 obtain⟨v107,h108,h⟩:=jw h
 obtain rfl:=oi h
 refine zk c49 ?_
 simp only[go_sem,seval,c49,h1,wh104,jz h108]
 exact⟨_,rfl⟩
def f10 (a0:Option (List ql)):Option (qc×Int×Int):=
 jy (f49 a0) fun v1=>
 some (v1.2.1,v1.2.2.1,v1.2.2.2)
theorem W10 {a0:Option (List ql)}{r}(h:f10 a0=some r):j6 pr (X pr) 10 [sl 5 vev a0]=some (.tup [.agg [Iv r.1.day,sl 5 zg r.1.lots,sl 4 za r.1.products,sl 8 vun r.1.units],Iv r.2.1,Iv r.2.2],false):=by
 unfold f10 at h
 obtain⟨v1,h2,h⟩:=jw h
 obtain rfl:=oi h
 refine zk c10 ?_
 simp only[go_sem,seval,c10,W49 h2]
 exact⟨_,rfl⟩
def f16 (a0:Option (List ql))(a1:ql):Option Int:=
 jy (f10 a0) fun v1=>
 cond (decide (v1.2.2=0))
  (jy (f12 a1) fun v4=>
  cond (decide (v4=0))
   (cond (decide (1000≤((a0.getD []).length:Int)))
    (some 5)
    (jy (apO (some []) (a0.getD [])) fun v8=>
    jy (apO v8 [a1]) fun v10=>
    jy (f10 v10) fun v12=>
    some v12.2.2))
   (some v4))
  (some v1.2.2)
theorem W16 {a0:Option (List ql)}{a1:ql}{r}(h:f16 a0 a1=some r):j6 pr (X pr) 16 [sl 5 vev a0,.agg [Iv a1.number,.str a1.kind,sl 1 yc a1.names,sl 1 yb a1.values,.str a1.text]]=some (Iv r,false):=by
 unfold f16 at h
 obtain⟨v1,h2,h⟩:=jw h
 rcases jx h with⟨h3,h⟩|⟨h3,h⟩
 ·obtain⟨v4,h5,h⟩:=jw h
  have wh5:=W12 h5
  rcases jx h with⟨h6,h⟩|⟨h6,h⟩
  ·rcases jx h with⟨h7,h⟩|⟨h7,h⟩
   ·obtain rfl:=oi h
    refine zk c16 ?_
    simp only[go_sem,seval,c16,W10 h2,h3,wh5,h6,h7]
    exact⟨_,rfl⟩
   obtain⟨v8,h9,h⟩:=jw h
   obtain⟨v10,h11,h⟩:=jw h
   obtain⟨v12,h13,h⟩:=jw h
   obtain rfl:=oi h
   refine zk c16 ?_
   simp only[go_sem,seval,c16,W10 h2,h3,wh5,h6,h7,qa9 h9,q0q h11,W10 h13]
   exact⟨_,rfl⟩
  obtain rfl:=oi h
  refine zk c16 ?_
  simp only[go_sem,seval,c16,W10 h2,h3,wh5,h6]
  exact⟨_,rfl⟩
 obtain rfl:=oi h
 refine zk c16 ?_
 simp only[go_sem,seval,c16,W10 h2,h3]
 exact⟨_,rfl⟩
end Go.Z
end
