/- Chapter 10. -/
import Derived.Test.YtfopaakmgogpiaaGreatDoorLZ
import Derived.Test.YtfopaakmgogpiaaGreatDoorVB
import Derived.Test.YtfopaakmgogpiaaGreatDoorV9
import Derived.Test.YtfopaakmgogpiaaGreatDoorW14
import Derived.Test.YtfopaakmgogpiaaGreatDoorW8
import Derived.Test.YtfopaakmgogpiaaGreatDoorW3
import Derived.Test.YtfopaakmgogpiaaGreatDoorW4
import Derived.Test.YtfopaakmgogpiaaGreatDoorAbsL
set_option linter.unusedVariables false
set_option linter.unusedSimpArgs false
set_option maxRecDepth 100000
set_option maxHeartbeats 4000000
namespace Go.Z
open Go Go.Abs Go.W
theorem qqh {a0:Option (List ql)}{a1:Int}{r}(h:f7 a0 a1=some r):j6 prZ (X prZ) 7 [sl 5 vev a0,Iv a1]=some (.bool r,false):=atZ rfl rfl (W7 h) (by first|rfl|simp only[go_sem,seval])
theorem qyq {a0:Option (List ql)}{r}(h:f9 a0=some r):j6 prZ (X prZ) 9 [sl 5 vev a0]=some (.tup [.agg [Iv r.1.day,sl 5 zg r.1.lots,sl 4 za r.1.products,sl 8 vun r.1.units],Iv r.2.1,Iv r.2.2],false):=atZ rfl rfl (W9 h) (by first|rfl|simp only[go_sem,seval])
theorem qty {a0:Option (List ql)}{r}(h:f10 a0=some r):j6 prZ (X prZ) 10 [sl 5 vev a0]=some (.tup [.agg [Iv r.1.day,sl 5 zg r.1.lots,sl 4 za r.1.products,sl 8 vun r.1.units],Iv r.2.1,Iv r.2.2],false):=atZ rfl rfl (W10 h) (by first|rfl|simp only[go_sem,seval])
theorem jyu {a0:ql}{r}(h:f11 a0=some r):j6 prZ (X prZ) 11 [.agg [Iv a0.number,.str a0.kind,sl 1 yc a0.names,sl 1 yb a0.values,.str a0.text]]=some (Iv r,false):=atZ rfl rfl (W11 h) (by first|rfl|simp only[go_sem,seval])
theorem jts {a0:ql}{r}(h:f12 a0=some r):j6 prZ (X prZ) 12 [.agg [Iv a0.number,.str a0.kind,sl 1 yc a0.names,sl 1 yb a0.values,.str a0.text]]=some (Iv r,false):=atZ rfl rfl (W12 h) (by first|rfl|simp only[go_sem,seval])
theorem js6 {a0:qc}{a1:qc}{r}(h:f13 a0 a1=some r):j6 prZ (X prZ) 13 [.agg [Iv a0.day,sl 5 zg a0.lots,sl 4 za a0.products,sl 8 vun a0.units],.agg [Iv a1.day,sl 5 zg a1.lots,sl 4 za a1.products,sl 8 vun a1.units]]=some (.bool r,false):=atZ rfl rfl (W13 h) (by first|rfl|simp only[go_sem,seval])
theorem jwz {a0:qc}{r}(h:f14 a0=some r):j6 prZ (X prZ) 14 [.agg [Iv a0.day,sl 5 zg a0.lots,sl 4 za a0.products,sl 8 vun a0.units]]=some (.agg [Iv r.day,sl 5 zg r.lots,sl 4 za r.products,sl 8 vun r.units],false):=atZ rfl rfl (W14 h) (by first|rfl|simp only[go_sem,seval])
theorem jzm {a0:Option (List ql)}{a1:ql}{r}(h:f15 a0 a1=some r):j6 prZ (X prZ) 15 [sl 5 vev a0,.agg [Iv a1.number,.str a1.kind,sl 1 yc a1.names,sl 1 yb a1.values,.str a1.text]]=some (Iv r,false):=atZ rfl rfl (W15 h) (by first|rfl|simp only[go_sem,seval])
theorem jvo {a0:Option (List ql)}{a1:ql}{r}(h:f16 a0 a1=some r):j6 prZ (X prZ) 16 [sl 5 vev a0,.agg [Iv a1.number,.str a1.kind,sl 1 yc a1.names,sl 1 yb a1.values,.str a1.text]]=some (Iv r,false):=atZ rfl rfl (W16 h) (by first|rfl|simp only[go_sem,seval])
noncomputable def f3 (a0:Option (List ql))(a1:ql):Option Bool:=
 jy (f7 a0 24) fun v1=>
 cond v1
  (jy (f7 (some [a1]) 1) fun v4=>
  cond v4
   (jy (f9 a0) fun v7=>
   jy (f10 a0) fun v9=>
   jy (f11 a1) fun v11=>
   jy (f12 a1) fun v13=>
   cond (decide (v11=v13))
    (cond (decide (v7.2.2=v9.2.2))
     (cond (decide (v7.2.1=v9.2.1))
      (jy (f14 v7.1) fun v18=>
      jy (f13 v18 v9.1) fun v20=>
      cond v20
       (jy (f15 a0 a1) fun v23=>
       jy (f16 a0 a1) fun v25=>
       cond (decide (v23=v25))
        (jy (E8) fun v28=>
        some v28)
        (some false))
       (some false))
      (some false))
     (some false))
    (some false))
   (jy (E8) fun v30=>
   some v30))
  (jy (E8) fun v32=>
  some v32)
theorem W3 {a0:Option (List ql)}{a1:ql}{r}(h:f3 a0 a1=some r):j6 prZ (X prZ) 3 [sl 5 vev a0,.agg [Iv a1.number,.str a1.kind,sl 1 yc a1.names,sl 1 yb a1.values,.str a1.text]]=some (.bool r,false):=by
 unfold f3 at h
 obtain⟨v1,h2,h⟩:=jw h
 rcases jx h with⟨h3,h⟩|⟨h3,h⟩
 ·obtain⟨v4,h5,h⟩:=jw h
  have wh5:j6 prZ (X prZ) 7 [.list false 5 [.agg [Iv a1.number,.str a1.kind,sl 1 yc a1.names,sl 1 yb a1.values,.str a1.text]],Iv 1]=some (.bool v4,false):=qqh h5
  rcases jx h with⟨h6,h⟩|⟨h6,h⟩
  ·obtain⟨v7,h8,h⟩:=jw h
   obtain⟨v9,h10,h⟩:=jw h
   obtain⟨v11,h12,h⟩:=jw h
   have wh12:=jyu h12
   obtain⟨v13,h14,h⟩:=jw h
   have wh14:=jts h14
   rcases jx h with⟨h15,h⟩|⟨h15,h⟩
   ·rcases jx h with⟨h16,h⟩|⟨h16,h⟩
    ·rcases jx h with⟨h17,h⟩|⟨h17,h⟩
     ·obtain⟨v18,h19,h⟩:=jw h
      have wh19:=jwz h19
      obtain⟨v20,h21,h⟩:=jw h
      have wh21:=js6 h21
      rcases jx h with⟨h22,h⟩|⟨h22,h⟩
      ·obtain⟨v23,h24,h⟩:=jw h
       have wh24:=jzm h24
       obtain⟨v25,h26,h⟩:=jw h
       have wh26:=jvo h26
       rcases jx h with⟨h27,h⟩|⟨h27,h⟩
       ·obtain⟨v28,h29,h⟩:=jw h
        obtain rfl:=oi h
        refine zk c3 ?_
        simp only[go_sem,seval,c3,qqh h2,h3,wh5,h6,qyq h8,qty h10,wh12,wh14,h15,h16,h17,wh19,wh21,h22,wh24,wh26,h27,Q8 h29]
        exact⟨_,rfl⟩
       obtain rfl:=oi h
       refine zk c3 ?_
       simp only[go_sem,seval,c3,qqh h2,h3,wh5,h6,qyq h8,qty h10,wh12,wh14,h15,h16,h17,wh19,wh21,h22,wh24,wh26,h27]
       exact⟨_,rfl⟩
      obtain rfl:=oi h
      refine zk c3 ?_
      simp only[go_sem,seval,c3,qqh h2,h3,wh5,h6,qyq h8,qty h10,wh12,wh14,h15,h16,h17,wh19,wh21,h22]
      exact⟨_,rfl⟩
     obtain rfl:=oi h
     refine zk c3 ?_
     simp only[go_sem,seval,c3,qqh h2,h3,wh5,h6,qyq h8,qty h10,wh12,wh14,h15,h16,h17]
     exact⟨_,rfl⟩
    obtain rfl:=oi h
    refine zk c3 ?_
    simp only[go_sem,seval,c3,qqh h2,h3,wh5,h6,qyq h8,qty h10,wh12,wh14,h15,h16]
    exact⟨_,rfl⟩
   obtain rfl:=oi h
   refine zk c3 ?_
   simp only[go_sem,seval,c3,qqh h2,h3,wh5,h6,qyq h8,qty h10,wh12,wh14,h15]
   exact⟨_,rfl⟩
  obtain⟨v30,h31,h⟩:=jw h
  obtain rfl:=oi h
  refine zk c3 ?_
  simp only[go_sem,seval,c3,qqh h2,h3,wh5,h6,Q8 h31]
  exact⟨_,rfl⟩
 obtain⟨v32,h33,h⟩:=jw h
 obtain rfl:=oi h
 refine zk c3 ?_
 simp only[go_sem,seval,c3,qqh h2,h3,Q8 h33]
 exact⟨_,rfl⟩
end Go.Z
