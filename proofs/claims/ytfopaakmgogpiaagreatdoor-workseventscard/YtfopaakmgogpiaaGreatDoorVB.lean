/- Chapter 10. -/
import Derived.Test.YtfopaakmgogpiaaGreatDoorV9
set_option linter.unusedVariables false
set_option linter.unusedSimpArgs false
set_option maxRecDepth 100000
set_option maxHeartbeats 4000000
namespace Go.Z
open Go Go.Abs Go.W
theorem jmz:zj pr (X pr) 48 [.ptr 2 0] [.hole,.cells [(.list true 0 [],false),(.list true 0 [],false),(.list true 0 [],false)],.cells [(.list true 0 [],false),(.list true 0 [],false),(.vref 4 0 1,false)],.cells [(.list true 0 [],false),(.list true 0 [],false),(.vref 4 0 1,false)],.vec 4 0 [.agg [Iv 0,.list true 0 [],.list true 0 [],.list true 0 []]]]=some (.agg [Iv 0,.list true 0 [],.list true 0 [],.list true 0 []],false,[.hole,.cells [(.list true 0 [],false),(.list true 0 [],false),(.list true 0 [],false)],.cells [(.list true 0 [],false),(.list true 0 [],false),(.vref 4 0 1,false)],.cells [(.list true 0 [],false),(.list true 0 [],false),(.vref 4 0 1,false)],.vec 4 0 [.agg [Iv 0,.list true 0 [],.list true 0 [],.list true 0 []]],.cells [(Iv 0,false),(.list true 0 [],false),(.list true 0 [],false),(.list true 0 [],false)]]):=by
 have g1:∀h:zb,qd2 4 h (some (.vref 4 0 1)) (some (Iv (j8 .i64 0)))=some ⟨.vel 4 0 0,false,none,h⟩:=fun h=>(qf8 (l:=[zreg]) (x:=zreg) rfl).1
 have g2:qa5 6 (some []) true 4 [.hole,.cells [(.list true 0 [],false),(.list true 0 [],false),(.list true 0 [],false)],.cells [(.list true 0 [],false),(.list true 0 [],false),(.vref 4 0 1,false)],.cells [(.list true 0 [],false),(.list true 0 [],false),(.vref 4 0 1,false)],.vec 4 0 [.agg [Iv 0,.list true 0 [],.list true 0 [],.list true 0 []]],.cells [(Iv 0,false),(.list true 0 [],false),(.list true 0 [],false),(.list true 0 [],false)]] (some (.vel 4 0 0))=some ⟨.agg [Iv 0,.list true 0 [],.list true 0 [],.list true 0 []],false,none,[.hole,.cells [(.list true 0 [],false),(.list true 0 [],false),(.list true 0 [],false)],.cells [(.list true 0 [],false),(.list true 0 [],false),(.vref 4 0 1,false)],.cells [(.list true 0 [],false),(.list true 0 [],false),(.vref 4 0 1,false)],.vec 4 0 [.agg [Iv 0,.list true 0 [],.list true 0 [],.list true 0 []]],.cells [(Iv 0,false),(.list true 0 [],false),(.list true 0 [],false),(.list true 0 [],false)]]⟩:=rfl
 rw[zc (show pr.fns 48=some c48 from rfl) (by simp)]
 simp only[go_sem,seval,c48,g1,g2]<;>rfl
theorem jog {e:ql}{q}(h:qlg e=some q):∃hh,zj pr (X pr) 65 [.ptr 2 0,.agg [Iv e.number,.str e.kind,sl 1 yc e.names,sl 1 yb e.values,.str e.text]] [.hole,.cells [(.list true 0 [],false),(.list true 0 [],false),(.list true 0 [],false)],.cells [(.list true 0 [],false),(.list true 0 [],false),(.vref 4 0 1,false)],.cells [(.list true 0 [],false),(.list true 0 [],false),(.vref 4 0 1,false)],.vec 4 0 [.agg [Iv 0,.list true 0 [],.list true 0 [],.list true 0 []]]]=some (Iv q.1,false,hh)∧yt 5 (Iv q.1) hh=(match q.2 with
  |none=>[.hole,.cells [(.list true 0 [],false),(.list true 0 [],false),(.list true 0 [],false)],.cells [(.list true 0 [],false),(.list true 0 [],false),(.vref 4 0 1,false)],.cells [(.list true 0 [],false),(.list true 0 [],false),(.vref 4 0 1,false)],.vec 4 0 [.agg [Iv 0,.list true 0 [],.list true 0 [],.list true 0 []]]]
  |some v=>[.hole,.cells [(.list true 0 [],false),(.list true 0 [],false),(.list true 0 [],false)],.cells [(.vref 7 v.ve v.ev.length,false),(.vref 5 v.vc v.lc,false),(.vref 4 v.vs v.ls,false)],.cells [(.list true 0 [],false),(.list true 0 [],false),(.vref 4 0 1,false)],.vec 4 v.vs (v.ss.map yr),.vec 5 v.vc (v.cs.map vev),.hole,.vec 5 v.ve (v.ev.map vev)]):=by
 unfold qlg at h
 rcases jx h with⟨h1,h⟩|⟨h1,h⟩
 ·rcases jx h with⟨h2,h⟩|⟨h2,h⟩
  ·obtain⟨e1,k1,h⟩:=jw h
   obtain⟨e2,k3,h⟩:=jw h
   obtain⟨e3,k4,h⟩:=jw h
   have w1:=W53 k1
   have w2:=W53 k3
   have w3:j6 pr (X pr) 51 [.list false 1 [Iv e1,Iv e2]]=some (Iv e3,false):=W51 k4
   rcases jx h with⟨h4,h⟩|⟨h4,h⟩
   ·cases h
   cases h
   refine⟨[.hole,.cells [(.list true 0 [],false),(.list true 0 [],false),(.list true 0 [],false)],.cells [(.list true 0 [],false),(.list true 0 [],false),(.vref 4 0 1,false)],.cells [(.list true 0 [],false),(.list true 0 [],false),(.vref 4 0 1,false)],.vec 4 0 [.agg [Iv 0,.list true 0 [],.list true 0 [],.list true 0 []]]],?_,qao rfl⟩
   rw[zc (show pr.fns 65=some c65 from rfl) (by simp)]
   simp only[go_sem,seval,c65,h1,h2,w1,w2,w3,h4,qt4,jes,jft]<;>rfl
  obtain⟨v,k2,h⟩:=jw h
  have w1:=jmz
  have wa:yt 5 (.agg [Iv 0,.list true 0 [],.list true 0 [],.list true 0 []]) [.hole,.cells [(.list true 0 [],false),(.list true 0 [],false),(.list true 0 [],false)],.cells [(.list true 0 [],false),(.list true 0 [],false),(.vref 4 0 1,false)],.cells [(.list true 0 [],false),(.list true 0 [],false),(.vref 4 0 1,false)],.vec 4 0 [.agg [Iv 0,.list true 0 [],.list true 0 [],.list true 0 []]],.cells [(Iv 0,false),(.list true 0 [],false),(.list true 0 [],false),(.list true 0 [],false)]]=[.hole,.cells [(.list true 0 [],false),(.list true 0 [],false),(.list true 0 [],false)],.cells [(.list true 0 [],false),(.list true 0 [],false),(.vref 4 0 1,false)],.cells [(.list true 0 [],false),(.list true 0 [],false),(.vref 4 0 1,false)],.vec 4 0 [.agg [Iv 0,.list true 0 [],.list true 0 [],.list true 0 []]]]:=by simp only[go_sem,seval]<;>rfl
  have w2:j6 pr (X pr) 121 [.agg [Iv 0,.list true 0 [],.list true 0 [],.list true 0 []],.agg [Iv e.number,.str e.kind,sl 1 yc e.names,sl 1 yb e.values,.str e.text]]=some (.tup [.agg [Iv v.1.day,sl 5 zg v.1.lots,sl 4 za v.1.products,sl 8 vun v.1.units],Iv v.2],false):=qzn k2
  rcases jx h with⟨h3,h⟩|⟨h3,h⟩
  ·cases h
   have g1:qbw 5 0 5 88 [.hole,.cells [(.list true 0 [],false),(.list true 0 [],false),(.list true 0 [],false)],.cells [(.list true 0 [],false),(.list true 0 [],false),(.vref 4 0 1,false)],.cells [(.list true 0 [],false),(.list true 0 [],false),(.vref 4 0 1,false)],.vec 4 0 [.agg [Iv 0,.list true 0 [],.list true 0 [],.list true 0 []]],.hole,.hole] (some (.list true 0 [])) (some (.list false 5 [.agg [Iv e.number,.str e.kind,sl 1 yc e.names,sl 1 yb e.values,.str e.text]]))=some ⟨.vref 5 0 1,false,none,[.hole,.cells [(.list true 0 [],false),(.list true 0 [],false),(.list true 0 [],false)],.cells [(.list true 0 [],false),(.list true 0 [],false),(.vref 4 0 1,false)],.cells [(.list true 0 [],false),(.list true 0 [],false),(.vref 4 0 1,false)],.vec 4 0 [.agg [Iv 0,.list true 0 [],.list true 0 [],.list true 0 []]],.vec 5 0 [.agg [Iv e.number,.str e.kind,sl 1 yc e.names,sl 1 yb e.values,.str e.text]],.hole]⟩:=by yf qjo<;>first|rfl|decide|(simp only[go_sem,seval]<;>done)|simp
   have g2:qbw 5 1 4 80 [.hole,.cells [(.list true 0 [],false),(.list true 0 [],false),(.list true 0 [],false)],.cells [(.list true 0 [],false),(.list true 0 [],false),(.vref 4 0 1,false)],.cells [(.list true 0 [],false),(.list true 0 [],false),(.vref 4 0 1,false)],.vec 4 0 [.agg [Iv 0,.list true 0 [],.list true 0 [],.list true 0 []]],.vec 5 0 [.agg [Iv e.number,.str e.kind,sl 1 yc e.names,sl 1 yb e.values,.str e.text]],.hole] (some (.vref 4 0 1)) (some (.list false 4 [.agg [Iv v.1.day,sl 5 zg v.1.lots,sl 4 za v.1.products,sl 8 vun v.1.units]]))=some ⟨.vref 4 1 2,false,none,[.hole,.cells [(.list true 0 [],false),(.list true 0 [],false),(.list true 0 [],false)],.cells [(.list true 0 [],false),(.list true 0 [],false),(.vref 4 0 1,false)],.cells [(.list true 0 [],false),(.list true 0 [],false),(.vref 4 0 1,false)],.vec 4 1 [.agg [Iv 0,.list true 0 [],.list true 0 [],.list true 0 []],.agg [Iv v.1.day,sl 5 zg v.1.lots,sl 4 za v.1.products,sl 8 vun v.1.units]],.vec 5 0 [.agg [Iv e.number,.str e.kind,sl 1 yc e.names,sl 1 yb e.values,.str e.text]],.hole]⟩:=qfp (f:=yr) (l:=[zreg]) (l':=[zreg,v.1]) (x:=v.1) rfl rfl (by simp only[go_sem,seval]) (by decide) (by decide) (by decide)
   have g3:qbw 7 0 5 88 [.hole,.cells [(.list true 0 [],false),(.list true 0 [],false),(.list true 0 [],false)],.cells [(.list true 0 [],false),(.vref 5 0 1,false),(.vref 4 1 2,false)],.cells [(.list true 0 [],false),(.list true 0 [],false),(.vref 4 0 1,false)],.vec 4 1 [.agg [Iv 0,.list true 0 [],.list true 0 [],.list true 0 []],.agg [Iv v.1.day,sl 5 zg v.1.lots,sl 4 za v.1.products,sl 8 vun v.1.units]],.vec 5 0 [.agg [Iv e.number,.str e.kind,sl 1 yc e.names,sl 1 yb e.values,.str e.text]],.hole,.hole] (some (.list true 0 [])) (some (.list false 5 [.agg [Iv e.number,.str e.kind,sl 1 yc e.names,sl 1 yb e.values,.str e.text]]))=some ⟨.vref 7 0 1,false,none,[.hole,.cells [(.list true 0 [],false),(.list true 0 [],false),(.list true 0 [],false)],.cells [(.list true 0 [],false),(.vref 5 0 1,false),(.vref 4 1 2,false)],.cells [(.list true 0 [],false),(.list true 0 [],false),(.vref 4 0 1,false)],.vec 4 1 [.agg [Iv 0,.list true 0 [],.list true 0 [],.list true 0 []],.agg [Iv v.1.day,sl 5 zg v.1.lots,sl 4 za v.1.products,sl 8 vun v.1.units]],.vec 5 0 [.agg [Iv e.number,.str e.kind,sl 1 yc e.names,sl 1 yb e.values,.str e.text]],.hole,.vec 5 0 [.agg [Iv e.number,.str e.kind,sl 1 yc e.names,sl 1 yb e.values,.str e.text]]]⟩:=by yf qjo<;>first|rfl|decide|(simp only[go_sem,seval]<;>done)|simp
   refine⟨[.hole,.cells [(.list true 0 [],false),(.list true 0 [],false),(.list true 0 [],false)],.cells [(.vref 7 0 1,false),(.vref 5 0 1,false),(.vref 4 1 2,false)],.cells [(.list true 0 [],false),(.list true 0 [],false),(.vref 4 0 1,false)],.vec 4 1 [.agg [Iv 0,.list true 0 [],.list true 0 [],.list true 0 []],.agg [Iv v.1.day,sl 5 zg v.1.lots,sl 4 za v.1.products,sl 8 vun v.1.units]],.vec 5 0 [.agg [Iv e.number,.str e.kind,sl 1 yc e.names,sl 1 yb e.values,.str e.text]],.hole,.vec 5 0 [.agg [Iv e.number,.str e.kind,sl 1 yc e.names,sl 1 yb e.values,.str e.text]]],?_,?_⟩
   ·rw[zc (show pr.fns 65=some c65 from rfl) (by simp)]
    simp only[go_sem,seval,c65,h1,h2,w1,wa,w2,h3,g1,g2,g3,qt4]<;>rfl
   ·simp only[go_sem,seval,(show ∀k b v l,k≤b→below k (.vref b v l)=false from fun k b v l h=>by rw[qym];exact dF (by omega))]<;>rfl
  cases h
  refine⟨[.hole,.cells [(.list true 0 [],false),(.list true 0 [],false),(.list true 0 [],false)],.cells [(.list true 0 [],false),(.list true 0 [],false),(.vref 4 0 1,false)],.cells [(.list true 0 [],false),(.list true 0 [],false),(.vref 4 0 1,false)],.vec 4 0 [.agg [Iv 0,.list true 0 [],.list true 0 [],.list true 0 []]]],?_,qao rfl⟩
  rw[zc (show pr.fns 65=some c65 from rfl) (by simp)]
  simp only[go_sem,seval,c65,h1,h2,w1,wa,w2,h3]<;>rfl
 cases h
 refine⟨[.hole,.cells [(.list true 0 [],false),(.list true 0 [],false),(.list true 0 [],false)],.cells [(.list true 0 [],false),(.list true 0 [],false),(.vref 4 0 1,false)],.cells [(.list true 0 [],false),(.list true 0 [],false),(.vref 4 0 1,false)],.vec 4 0 [.agg [Iv 0,.list true 0 [],.list true 0 [],.list true 0 []]]],?_,qao rfl⟩
 rw[zc (show pr.fns 65=some c65 from rfl) (by simp)]
 simp only[go_sem,seval,c65,h1]<;>rfl
theorem jqh {s:HV}{r:qc}(hx:zz (s.ss.take s.ls) (j8 .i64 ((s.ls:Int)-1))=some r):zj pr (X pr) 48 [.ptr 2 0] [.hole,.cells [(.list true 0 [],false),(.list true 0 [],false),(.list true 0 [],false)],.cells [(.vref 7 s.ve s.ev.length,false),(.vref 5 s.vc s.lc,false),(.vref 4 s.vs s.ls,false)],.cells [(.list true 0 [],false),(.list true 0 [],false),(.vref 4 0 1,false)],.vec 4 s.vs (s.ss.map yr),.vec 5 s.vc (s.cs.map vev),.hole,.vec 5 s.ve (s.ev.map vev)]=some (.agg [Iv r.day,sl 5 zg r.lots,sl 4 za r.products,sl 8 vun r.units],false,[.hole,.cells [(.list true 0 [],false),(.list true 0 [],false),(.list true 0 [],false)],.cells [(.vref 7 s.ve s.ev.length,false),(.vref 5 s.vc s.lc,false),(.vref 4 s.vs s.ls,false)],.cells [(.list true 0 [],false),(.list true 0 [],false),(.vref 4 0 1,false)],.vec 4 s.vs (s.ss.map yr),.vec 5 s.vc (s.cs.map vev),.hole,.vec 5 s.ve (s.ev.map vev),.cells [(Iv r.day,false),(sl 5 zg r.lots,false),(sl 4 za r.products,false),(sl 8 vun r.units,false)]]):=by
 have g1:∀h:zb,qd2 4 h (some (.vref 4 s.vs s.ls)) (some (Iv (j8 .i64 ((s.ls:Int)-1))))=some ⟨.vel 4 s.vs ((j8 .i64 ((s.ls:Int)-1)).toNat*4),false,none,h⟩:=fun h=>(qf8 hx).1
 have g2:qa5 9 (some []) true 4 [.hole,.cells [(.list true 0 [],false),(.list true 0 [],false),(.list true 0 [],false)],.cells [(.vref 7 s.ve s.ev.length,false),(.vref 5 s.vc s.lc,false),(.vref 4 s.vs s.ls,false)],.cells [(.list true 0 [],false),(.list true 0 [],false),(.vref 4 0 1,false)],.vec 4 s.vs (s.ss.map yr),.vec 5 s.vc (s.cs.map vev),.hole,.vec 5 s.ve (s.ev.map vev),.cells [(Iv 0,false),(.list true 0 [],false),(.list true 0 [],false),(.list true 0 [],false)]] (some (.vel 4 s.vs ((j8 .i64 ((s.ls:Int)-1)).toNat*4)))=some ⟨.agg [Iv r.day,sl 5 zg r.lots,sl 4 za r.products,sl 8 vun r.units],false,none,[.hole,.cells [(.list true 0 [],false),(.list true 0 [],false),(.list true 0 [],false)],.cells [(.vref 7 s.ve s.ev.length,false),(.vref 5 s.vc s.lc,false),(.vref 4 s.vs s.ls,false)],.cells [(.list true 0 [],false),(.list true 0 [],false),(.vref 4 0 1,false)],.vec 4 s.vs (s.ss.map yr),.vec 5 s.vc (s.cs.map vev),.hole,.vec 5 s.ve (s.ev.map vev),.cells [(Iv 0,false),(.list true 0 [],false),(.list true 0 [],false),(.list true 0 [],false)]]⟩:=qv7 q1q rfl rfl (qf8 (sz:=4) (b:=0) (v:=0) (h:=[]) hx).2
 rw[zc (show pr.fns 48=some c48 from rfl) (by simp)]
 simp only[go_sem,seval,c48,g1,g2]<;>rfl
theorem jyi {s:HV}{e:ql}{q}(h:qqw s e=some q):∃hh,zj pr (X pr) 65 [.ptr 2 0,.agg [Iv e.number,.str e.kind,sl 1 yc e.names,sl 1 yb e.values,.str e.text]] [.hole,.cells [(.list true 0 [],false),(.list true 0 [],false),(.list true 0 [],false)],.cells [(.vref 7 s.ve s.ev.length,false),(.vref 5 s.vc s.lc,false),(.vref 4 s.vs s.ls,false)],.cells [(.list true 0 [],false),(.list true 0 [],false),(.vref 4 0 1,false)],.vec 4 s.vs (s.ss.map yr),.vec 5 s.vc (s.cs.map vev),.hole,.vec 5 s.ve (s.ev.map vev)]=some (Iv q.1,false,hh)∧yt 8 (Iv q.1) hh=[.hole,.cells [(.list true 0 [],false),(.list true 0 [],false),(.list true 0 [],false)],.cells [(.vref 7 q.2.ve q.2.ev.length,false),(.vref 5 q.2.vc q.2.lc,false),(.vref 4 q.2.vs q.2.ls,false)],.cells [(.list true 0 [],false),(.list true 0 [],false),(.vref 4 0 1,false)],.vec 4 q.2.vs (q.2.ss.map yr),.vec 5 q.2.vc (q.2.cs.map vev),.hole,.vec 5 q.2.ve (q.2.ev.map vev)]:=by
 unfold qqw at h
 rcases jx h with⟨h1,h⟩|⟨h1,h⟩
 ·rcases jx h with⟨h2,h⟩|⟨h2,h⟩
  ·obtain⟨e1,k1,h⟩:=jw h
   have w1:=W53 k1
   rcases jx h with⟨h3,h⟩|⟨h3,h⟩
   ·obtain⟨x,k2,h⟩:=jw h
    obtain⟨e2,k3,h⟩:=jw h
    obtain⟨e3,k4,h⟩:=jw h
    have w2:=W53 k3
    have w3:j6 pr (X pr) 51 [.list false 1 [Iv e1,Iv e2]]=some (Iv e3,false):=W51 k4
    have g1:∀h:zb,qd2 5 h (some (.vref 5 s.vc s.lc)) (some (Iv (max 0 (j8 .i64 ((s.lc:Int)-1)))))=some ⟨.vel 5 s.vc ((max 0 (j8 .i64 ((s.lc:Int)-1))).toNat*5),false,none,h⟩:=fun h=>(qf8 k2).1
    have g2:qa5 8 none false 1 [.hole,.cells [(.list true 0 [],false),(.list true 0 [],false),(.list true 0 [],false)],.cells [(.vref 7 s.ve s.ev.length,false),(.vref 5 s.vc s.lc,false),(.vref 4 s.vs s.ls,false)],.cells [(.list true 0 [],false),(.list true 0 [],false),(.vref 4 0 1,false)],.vec 4 s.vs (s.ss.map yr),.vec 5 s.vc (s.cs.map vev),.hole,.vec 5 s.ve (s.ev.map vev)] (some (.vel 5 s.vc ((max 0 (j8 .i64 ((s.lc:Int)-1))).toNat*5+1)))=some ⟨.str x.kind,false,none,[.hole,.cells [(.list true 0 [],false),(.list true 0 [],false),(.list true 0 [],false)],.cells [(.vref 7 s.ve s.ev.length,false),(.vref 5 s.vc s.lc,false),(.vref 4 s.vs s.ls,false)],.cells [(.list true 0 [],false),(.list true 0 [],false),(.vref 4 0 1,false)],.vec 4 s.vs (s.ss.map yr),.vec 5 s.vc (s.cs.map vev),.hole,.vec 5 s.ve (s.ev.map vev)]⟩:=q17 (f:=vev) (o:=1) jed rfl rfl (qf8 (sz:=4) (b:=0) (v:=0) (h:=[]) k2).2 rfl
    rcases jx h with⟨h4,h⟩|⟨h4,h⟩
    ·rcases jx h with⟨h5,h⟩|⟨_,h⟩
     ·obtain⟨ev,hev,h⟩:=jw h
      cases h
      have c5:=of_decide_eq_true h5
      have hln:ev.length=s.ev.length+1:=qif hev
      have g3:∀h:zb,qi0 5 h (some (.vref 5 s.vc s.lc)) none (some (some (Iv (j8 .i64 ((s.lc:Int)-1)))))=some ⟨.vref 5 s.vc (j8 .i64 ((s.lc:Int)-1)).toNat,false,none,h⟩:=fun h=>qy8 c5.1 c5.2.1
      have g4:∀h:zb,qi0 4 h (some (.vref 4 s.vs s.ls)) none (some (some (Iv (s.lc:Int))))=some ⟨.vref 4 s.vs s.lc,false,none,h⟩:=fun h=>qy8 (by omega) (by have:=c5.2.2;omega)
      have g5:qbw 8 0 5 88 [.hole,.cells [(.list true 0 [],false),(.list true 0 [],false),(.list true 0 [],false)],.cells [(.vref 7 s.ve s.ev.length,false),(.vref 5 s.vc (j8 .i64 ((s.lc:Int)-1)).toNat,false),(.vref 4 s.vs s.lc,false)],.cells [(.list true 0 [],false),(.list true 0 [],false),(.vref 4 0 1,false)],.vec 4 s.vs (s.ss.map yr),.vec 5 s.vc (s.cs.map vev),.hole,.vec 5 s.ve (s.ev.map vev),.hole] (some (.vref 7 s.ve s.ev.length)) (some (.list false 5 [.agg [Iv e.number,.str e.kind,sl 1 yc e.names,sl 1 yb e.values,.str e.text]]))=some ⟨.vref 7 (s.ve+1) (s.ev.length+1),false,none,[.hole,.cells [(.list true 0 [],false),(.list true 0 [],false),(.list true 0 [],false)],.cells [(.vref 7 s.ve s.ev.length,false),(.vref 5 s.vc (j8 .i64 ((s.lc:Int)-1)).toNat,false),(.vref 4 s.vs s.lc,false)],.cells [(.list true 0 [],false),(.list true 0 [],false),(.vref 4 0 1,false)],.vec 4 s.vs (s.ss.map yr),.vec 5 s.vc (s.cs.map vev),.hole,.vec 5 (s.ve+1) (ev.map vev),.hole]⟩:=qfp (f:=vev) (x:=e) hev rfl (by simp only[go_sem,seval]) (by decide) (by decide) (by decide)
      refine⟨[.hole,.cells [(.list true 0 [],false),(.list true 0 [],false),(.list true 0 [],false)],.cells [(.vref 7 (s.ve+1) (s.ev.length+1),false),(.vref 5 s.vc (j8 .i64 ((s.lc:Int)-1)).toNat,false),(.vref 4 s.vs s.lc,false)],.cells [(.list true 0 [],false),(.list true 0 [],false),(.vref 4 0 1,false)],.vec 4 s.vs (s.ss.map yr),.vec 5 s.vc (s.cs.map vev),.hole,.vec 5 (s.ve+1) (ev.map vev),.hole],?_,?_⟩
      ·rw[zc (show pr.fns 65=some c65 from rfl) (by simp)]
       simp only[go_sem,seval,c65,h1,h2,w1,h3,g1,g2,w2,w3,h4,g3,g4,g5]<;>rfl
      ·simp only[hln]
       simp only[go_sem,seval]<;>rfl
     cases h
    cases h
    refine⟨[.hole,.cells [(.list true 0 [],false),(.list true 0 [],false),(.list true 0 [],false)],.cells [(.vref 7 s.ve s.ev.length,false),(.vref 5 s.vc s.lc,false),(.vref 4 s.vs s.ls,false)],.cells [(.list true 0 [],false),(.list true 0 [],false),(.vref 4 0 1,false)],.vec 4 s.vs (s.ss.map yr),.vec 5 s.vc (s.cs.map vev),.hole,.vec 5 s.ve (s.ev.map vev)],?_,qao rfl⟩
    rw[zc (show pr.fns 65=some c65 from rfl) (by simp)]
    simp only[go_sem,seval,c65,h1,h2,w1,h3,g1,g2,w2,w3,h4]<;>rfl
   obtain⟨e2,k3,h⟩:=jw h
   obtain⟨e3,k4,h⟩:=jw h
   have w2:=W53 k3
   have w3:j6 pr (X pr) 51 [.list false 1 [Iv e1,Iv e2]]=some (Iv e3,false):=W51 k4
   rcases jx h with⟨h4,h⟩|⟨h4,h⟩
   ·cases h
   cases h
   refine⟨[.hole,.cells [(.list true 0 [],false),(.list true 0 [],false),(.list true 0 [],false)],.cells [(.vref 7 s.ve s.ev.length,false),(.vref 5 s.vc s.lc,false),(.vref 4 s.vs s.ls,false)],.cells [(.list true 0 [],false),(.list true 0 [],false),(.vref 4 0 1,false)],.vec 4 s.vs (s.ss.map yr),.vec 5 s.vc (s.cs.map vev),.hole,.vec 5 s.ve (s.ev.map vev)],?_,qao rfl⟩
   rw[zc (show pr.fns 65=some c65 from rfl) (by simp)]
   simp only[go_sem,seval,c65,h1,h2,w1,h3,w2,w3,h4]<;>rfl
  obtain⟨r,k1,h⟩:=jw h
  obtain⟨v,k2,h⟩:=jw h
  have w1:=jqh k1
  have wa:yt 8 (.agg [Iv r.day,sl 5 zg r.lots,sl 4 za r.products,sl 8 vun r.units]) [.hole,.cells [(.list true 0 [],false),(.list true 0 [],false),(.list true 0 [],false)],.cells [(.vref 7 s.ve s.ev.length,false),(.vref 5 s.vc s.lc,false),(.vref 4 s.vs s.ls,false)],.cells [(.list true 0 [],false),(.list true 0 [],false),(.vref 4 0 1,false)],.vec 4 s.vs (s.ss.map yr),.vec 5 s.vc (s.cs.map vev),.hole,.vec 5 s.ve (s.ev.map vev),.cells [(Iv r.day,false),(sl 5 zg r.lots,false),(sl 4 za r.products,false),(sl 8 vun r.units,false)]]=[.hole,.cells [(.list true 0 [],false),(.list true 0 [],false),(.list true 0 [],false)],.cells [(.vref 7 s.ve s.ev.length,false),(.vref 5 s.vc s.lc,false),(.vref 4 s.vs s.ls,false)],.cells [(.list true 0 [],false),(.list true 0 [],false),(.vref 4 0 1,false)],.vec 4 s.vs (s.ss.map yr),.vec 5 s.vc (s.cs.map vev),.hole,.vec 5 s.ve (s.ev.map vev)]:=by simp only[go_sem,seval]<;>rfl
  have w2:j6 pr (X pr) 121 [.agg [Iv r.day,sl 5 zg r.lots,sl 4 za r.products,sl 8 vun r.units],.agg [Iv e.number,.str e.kind,sl 1 yc e.names,sl 1 yb e.values,.str e.text]]=some (.tup [.agg [Iv v.1.day,sl 5 zg v.1.lots,sl 4 za v.1.products,sl 8 vun v.1.units],Iv v.2],false):=qzn k2
  rcases jx h with⟨h3,h⟩|⟨h3,h⟩
  ·obtain⟨cs,hcs,h⟩:=jw h
   obtain⟨ss,hss,h⟩:=jw h
   obtain⟨ev,hev,h⟩:=jw h
   cases h
   have hln:ev.length=s.ev.length+1:=qif hev
   have g1:qbw 8 0 5 88 [.hole,.cells [(.list true 0 [],false),(.list true 0 [],false),(.list true 0 [],false)],.cells [(.vref 7 s.ve s.ev.length,false),(.vref 5 s.vc s.lc,false),(.vref 4 s.vs s.ls,false)],.cells [(.list true 0 [],false),(.list true 0 [],false),(.vref 4 0 1,false)],.vec 4 s.vs (s.ss.map yr),.vec 5 s.vc (s.cs.map vev),.hole,.vec 5 s.ve (s.ev.map vev),.hole,.hole] (some (.vref 5 s.vc s.lc)) (some (.list false 5 [.agg [Iv e.number,.str e.kind,sl 1 yc e.names,sl 1 yb e.values,.str e.text]]))=some ⟨.vref 5 (s.vc+1) (s.lc+1),false,none,[.hole,.cells [(.list true 0 [],false),(.list true 0 [],false),(.list true 0 [],false)],.cells [(.vref 7 s.ve s.ev.length,false),(.vref 5 s.vc s.lc,false),(.vref 4 s.vs s.ls,false)],.cells [(.list true 0 [],false),(.list true 0 [],false),(.vref 4 0 1,false)],.vec 4 s.vs (s.ss.map yr),.vec 5 (s.vc+1) (cs.map vev),.hole,.vec 5 s.ve (s.ev.map vev),.hole,.hole]⟩:=qfp (f:=vev) (x:=e) hcs rfl (by simp only[go_sem,seval]) (by decide) (by decide) (by decide)
   have g2:qbw 8 1 4 80 [.hole,.cells [(.list true 0 [],false),(.list true 0 [],false),(.list true 0 [],false)],.cells [(.vref 7 s.ve s.ev.length,false),(.vref 5 s.vc s.lc,false),(.vref 4 s.vs s.ls,false)],.cells [(.list true 0 [],false),(.list true 0 [],false),(.vref 4 0 1,false)],.vec 4 s.vs (s.ss.map yr),.vec 5 (s.vc+1) (cs.map vev),.hole,.vec 5 s.ve (s.ev.map vev),.hole,.hole] (some (.vref 4 s.vs s.ls)) (some (.list false 4 [.agg [Iv v.1.day,sl 5 zg v.1.lots,sl 4 za v.1.products,sl 8 vun v.1.units]]))=some ⟨.vref 4 (s.vs+1) (s.ls+1),false,none,[.hole,.cells [(.list true 0 [],false),(.list true 0 [],false),(.list true 0 [],false)],.cells [(.vref 7 s.ve s.ev.length,false),(.vref 5 s.vc s.lc,false),(.vref 4 s.vs s.ls,false)],.cells [(.list true 0 [],false),(.list true 0 [],false),(.vref 4 0 1,false)],.vec 4 (s.vs+1) (ss.map yr),.vec 5 (s.vc+1) (cs.map vev),.hole,.vec 5 s.ve (s.ev.map vev),.hole,.hole]⟩:=qfp (f:=yr) (x:=v.1) hss rfl (by simp only[go_sem,seval]) (by decide) (by decide) (by decide)
   have g3:qbw 10 0 5 88 [.hole,.cells [(.list true 0 [],false),(.list true 0 [],false),(.list true 0 [],false)],.cells [(.vref 7 s.ve s.ev.length,false),(.vref 5 (s.vc+1) (s.lc+1),false),(.vref 4 (s.vs+1) (s.ls+1),false)],.cells [(.list true 0 [],false),(.list true 0 [],false),(.vref 4 0 1,false)],.vec 4 (s.vs+1) (ss.map yr),.vec 5 (s.vc+1) (cs.map vev),.hole,.vec 5 s.ve (s.ev.map vev),.hole,.hole,.hole] (some (.vref 7 s.ve s.ev.length)) (some (.list false 5 [.agg [Iv e.number,.str e.kind,sl 1 yc e.names,sl 1 yb e.values,.str e.text]]))=some ⟨.vref 7 (s.ve+1) (s.ev.length+1),false,none,[.hole,.cells [(.list true 0 [],false),(.list true 0 [],false),(.list true 0 [],false)],.cells [(.vref 7 s.ve s.ev.length,false),(.vref 5 (s.vc+1) (s.lc+1),false),(.vref 4 (s.vs+1) (s.ls+1),false)],.cells [(.list true 0 [],false),(.list true 0 [],false),(.vref 4 0 1,false)],.vec 4 (s.vs+1) (ss.map yr),.vec 5 (s.vc+1) (cs.map vev),.hole,.vec 5 (s.ve+1) (ev.map vev),.hole,.hole,.hole]⟩:=qfp (f:=vev) (x:=e) hev rfl (by simp only[go_sem,seval]) (by decide) (by decide) (by decide)
   refine⟨[.hole,.cells [(.list true 0 [],false),(.list true 0 [],false),(.list true 0 [],false)],.cells [(.vref 7 (s.ve+1) (s.ev.length+1),false),(.vref 5 (s.vc+1) (s.lc+1),false),(.vref 4 (s.vs+1) (s.ls+1),false)],.cells [(.list true 0 [],false),(.list true 0 [],false),(.vref 4 0 1,false)],.vec 4 (s.vs+1) (ss.map yr),.vec 5 (s.vc+1) (cs.map vev),.hole,.vec 5 (s.ve+1) (ev.map vev),.hole,.hole,.hole],?_,?_⟩
   ·rw[zc (show pr.fns 65=some c65 from rfl) (by simp)]
    simp only[go_sem,seval,c65,h1,h2,w1,wa,w2,h3,g1,g2,g3]<;>rfl
   ·simp only[hln]
    simp only[go_sem,seval]<;>rfl
  cases h
  refine⟨[.hole,.cells [(.list true 0 [],false),(.list true 0 [],false),(.list true 0 [],false)],.cells [(.vref 7 s.ve s.ev.length,false),(.vref 5 s.vc s.lc,false),(.vref 4 s.vs s.ls,false)],.cells [(.list true 0 [],false),(.list true 0 [],false),(.vref 4 0 1,false)],.vec 4 s.vs (s.ss.map yr),.vec 5 s.vc (s.cs.map vev),.hole,.vec 5 s.ve (s.ev.map vev)],?_,qao rfl⟩
  rw[zc (show pr.fns 65=some c65 from rfl) (by simp)]
  simp only[go_sem,seval,c65,h1,h2,w1,wa,w2,h3]<;>rfl
 cases h
 refine⟨[.hole,.cells [(.list true 0 [],false),(.list true 0 [],false),(.list true 0 [],false)],.cells [(.vref 7 s.ve s.ev.length,false),(.vref 5 s.vc s.lc,false),(.vref 4 s.vs s.ls,false)],.cells [(.list true 0 [],false),(.list true 0 [],false),(.vref 4 0 1,false)],.vec 4 s.vs (s.ss.map yr),.vec 5 s.vc (s.cs.map vev),.hole,.vec 5 s.ve (s.ev.map vev)],?_,qao rfl⟩
 rw[zc (show pr.fns 65=some c65 from rfl) (by simp)]
 simp only[go_sem,seval,c65,h1]<;>rfl
def HP1:Option HV→zb
 |none=>[.hole,.cells [(.list true 0 [],false),(.list true 0 [],false),(.list true 0 [],false)],.cells [(.list true 0 [],false),(.list true 0 [],false),(.vref 4 0 1,false)],.cells [(.list true 0 [],false),(.list true 0 [],false),(.vref 4 0 1,false)],.vec 4 0 [.agg [Iv 0,.list true 0 [],.list true 0 [],.list true 0 []]]]
 |some v=>[.hole,.cells [(.list true 0 [],false),(.list true 0 [],false),(.list true 0 [],false)],.cells [(.vref 7 v.ve v.ev.length,false),(.vref 5 v.vc v.lc,false),(.vref 4 v.vs v.ls,false)],.cells [(.list true 0 [],false),(.list true 0 [],false),(.vref 4 0 1,false)],.vec 4 v.vs (v.ss.map yr),.vec 5 v.vc (v.cs.map vev),.hole,.vec 5 v.ve (v.ev.map vev)]
def qfh (l:Option (List ql))(x:Int×Option HV):qg:=⟨[(2,.ptr 1 0,false),(5,.ptr 2 0,false),(14,sl 5 vev l,false),(15,Lv l,false),(16,Iv x.1,false)],HP1 x.2⟩
def qhj (l:Option (List ql)):(Int×Int×Option HV)⊕(Int×Option HV)→qn×qg
 | .inl d=>(.ret,⟨[(2,.ptr 1 0,false),(3,Iv d.1,false),(4,Iv d.2.1,false)],HP1 d.2.2⟩)
 | .inr d=>(.exit 0,⟨[(2,.ptr 1 0,false),(5,.ptr 2 0,false),(14,sl 5 vev l,false),(15,Lv l,false),(16,Iv d.1,false),(17,.bool false,false)],HP1 d.2⟩)
theorem jwq (l:Option (List ql))(x:Int×Option HV)(r)(h:s47 l x=some r):y6 pr qck (qfh l) (qhj l) x r:=by
 rcases x with⟨i,o⟩
 unfold s47 at h
 rcases jx h with⟨h1,h⟩|⟨h1,h⟩
 ·obtain⟨e,h2,h⟩:=jw h
  obtain⟨c,h3,h⟩:=jw h
  have w1:j6 pr (X pr) 11 [.agg [Iv e.number,.str e.kind,sl 1 yc e.names,sl 1 yb e.values,.str e.text]]=some (Iv c,false):=W11 h3
  rcases jx h with⟨h4,h⟩|⟨h4,h⟩
  ·obtain⟨e2,h5,h⟩:=jw h
   obtain⟨q,h6,h⟩:=jw h
   have w2:j6 pr (X pr) 66 [.agg [Iv e.number,.str e.kind,sl 1 yc e.names,sl 1 yb e.values,.str e.text]]=some (.agg [Iv e2.number,.str e2.kind,sl 1 yc e2.names,sl 1 yb e2.values,.str e2.text],false):=W66 h5
   rcases o with _|s
   ·obtain⟨hh,w3,wa⟩:=jog (e:=e2) h6
    rcases q with⟨q1,q2⟩
    rcases q2 with _|v
    ·simp only at wa
     rcases jx h with⟨h7,h⟩|⟨h7,h⟩
     ·cases h
      exact qfr (st':=qfh l (j8 .i64 (i+1),none)) (by simp only[go_sem,seval,qck,qfh,HP1,h1,jz h2,w1,h4,w2,w3,wa,h7]<;>rfl) (qjf (Nat.le_refl _))
     cases h
     exact zd (by simp only[go_sem,seval,qck,qfh,HP1,h1,jz h2,w1,h4,w2,w3,wa,h7,qhj]<;>rfl)
    simp only at wa
    rcases jx h with⟨h7,h⟩|⟨h7,h⟩
    ·cases h
     exact qfr (st':=qfh l (j8 .i64 (i+1),some v)) (by simp only[go_sem,seval,qck,qfh,HP1,h1,jz h2,w1,h4,w2,w3,wa,h7]<;>rfl) (q6q rfl)
    cases h
    exact zd (by simp only[go_sem,seval,qck,qfh,HP1,h1,jz h2,w1,h4,w2,w3,wa,h7,qhj]<;>rfl)
   obtain⟨q0,h8,h9⟩:=jw h6
   cases h9
   obtain⟨hh,w3,wa⟩:=jyi (e:=e2) h8
   rcases jx h with⟨h7,h⟩|⟨h7,h⟩
   ·cases h
    exact qfr (st':=qfh l (j8 .i64 (i+1),some q0.2)) (by simp only[go_sem,seval,qck,qfh,HP1,h1,jz h2,w1,h4,w2,w3,wa,h7]<;>rfl) (qjf (Nat.le_refl _))
   cases h
   exact zd (by simp only[go_sem,seval,qck,qfh,HP1,h1,jz h2,w1,h4,w2,w3,wa,h7,qhj]<;>rfl)
  cases h
  rcases o with _|s
  ·exact zd (by simp only[go_sem,seval,qck,qfh,HP1,h1,jz h2,w1,h4,qhj]<;>rfl)
  exact zd (by simp only[go_sem,seval,qck,qfh,HP1,h1,jz h2,w1,h4,qhj]<;>rfl)
 cases h
 exact zd (by simp only[go_sem,seval,qck,qfh,h1,qhj]<;>rfl)
theorem jy1:zj pr (X pr) 96 [] [.hole,.cells [(.list true 0 [],false),(.list true 0 [],false),(.list true 0 [],false)],.hole]=some (.agg [.list true 0 [],.list true 0 [],.vref 4 0 1],false,[.hole,.cells [(.list true 0 [],false),(.list true 0 [],false),(.list true 0 [],false)],.hole,.cells [(.list true 0 [],false),(.list true 0 [],false),(.vref 4 0 1,false)],.vec 4 0 [.agg [Iv 0,.list true 0 [],.list true 0 [],.list true 0 []]]]):=by
 have vlit1:j9 pr (X pr) 4 none [(1,.agg [Iv 0,.list true 0 [],.list true 0 [],.list true 0 []],false),(0,.ptr 3 0,false)] [.hole,.cells [(.list true 0 [],false),(.list true 0 [],false),(.list true 0 [],false)],.hole,.cells [(.list true 0 [],false),(.list true 0 [],false),(.list true 0 [],false)],.hole] (.vlit 0 4 1 [Iv 0,.list true 0 [],.list true 0 [],.list true 0 []] [(0,.tmp 1)])=some ⟨.vref 4 0 1,false,none,[.hole,.cells [(.list true 0 [],false),(.list true 0 [],false),(.list true 0 [],false)],.hole,.cells [(.list true 0 [],false),(.list true 0 [],false),(.list true 0 [],false)],.vec 4 0 [.agg [Iv 0,.list true 0 [],.list true 0 [],.list true 0 []]]]⟩:=rfl
 rw[zc (show pr.fns 96=some c96 from rfl) (by simp)]
 simp only[go_sem,seval,c96,vlit1]<;>rfl
def HQ1:Option HV→zb
 |none=>[.hole,.cells [(.list true 0 [],false),(.list true 0 [],false),(.vref 4 0 1,false)],.cells [(.list true 0 [],false),(.list true 0 [],false),(.vref 4 0 1,false)],.cells [(.list true 0 [],false),(.list true 0 [],false),(.vref 4 0 1,false)],.vec 4 0 [.agg [Iv 0,.list true 0 [],.list true 0 [],.list true 0 []]]]
 |some v=>[.hole,.cells [(.vref 7 v.ve v.ev.length,false),(.vref 5 v.vc v.lc,false),(.vref 4 v.vs v.ls,false)],.cells [(.vref 7 v.ve v.ev.length,false),(.vref 5 v.vc v.lc,false),(.vref 4 v.vs v.ls,false)],.cells [(.list true 0 [],false),(.list true 0 [],false),(.vref 4 0 1,false)],.vec 4 v.vs (v.ss.map yr),.vec 5 v.vc (v.cs.map vev),.hole,.vec 5 v.ve (v.ev.map vev)]
def hv1:Option HV→qa
 |none=>.agg [.list true 0 [],.list true 0 [],.vref 4 0 1]
 |some v=>.agg [.vref 7 v.ve v.ev.length,.vref 5 v.vc v.lc,.vref 4 v.vs v.ls]
def rs1:(Int × Int)⊕Option HV→qa
 | .inl x=>.tup [.agg [.list true 0 [],.list true 0 [],.list true 0 []],Iv x.1,Iv x.2]
 | .inr o=>.tup [hv1 o,Iv 0,Iv 0]
def HR1:(Int × Int)⊕Option HV→zb
 | .inl _=>[.hole]
 | .inr o=>HQ1 o
theorem jqt {l:Option (List ql)}{r}(h:f47 l=some r):∃hh,zj pr (X pr) 47 [sl 5 vev l] [.hole]=some (rs1 r,false,hh)∧yt 1 (rs1 r) hh=HR1 r:=by
 unfold f47 at h
 rcases jx h with⟨h1,h⟩|⟨h1,h⟩
 ·cases h
  refine⟨[.hole,.cells [(.list true 0 [],false),(.list true 0 [],false),(.list true 0 [],false)]],?_,?_⟩
  ·rw[zc (show pr.fns 47=some c47 from rfl) (by simp)]
   simp only[go_sem,seval,c47,h1]<;>rfl
  ·simp only[go_sem,seval,rs1,HR1]<;>rfl
 obtain⟨d,h2,h⟩:=jw h
 have w:=jy1
 have wa:yt 3 (.agg [.list true 0 [],.list true 0 [],.vref 4 0 1]) [.hole,.cells [(.list true 0 [],false),(.list true 0 [],false),(.list true 0 [],false)],.hole,.cells [(.list true 0 [],false),(.list true 0 [],false),(.vref 4 0 1,false)],.vec 4 0 [.agg [Iv 0,.list true 0 [],.list true 0 [],.list true 0 []]]]=[.hole,.cells [(.list true 0 [],false),(.list true 0 [],false),(.list true 0 [],false)],.hole,.cells [(.list true 0 [],false),(.list true 0 [],false),(.vref 4 0 1,false)],.vec 4 0 [.agg [Iv 0,.list true 0 [],.list true 0 [],.list true 0 []]]]:=by simp only[go_sem,seval]<;>rfl
 have wl:X pr (.loop qck) ⟨[(2,.ptr 1 0,false),(5,.ptr 2 0,false),(14,sl 5 vev l,false),(15,Lv l,false),(16,Iv 0,false)],[.hole,.cells [(.list true 0 [],false),(.list true 0 [],false),(.list true 0 [],false)],.cells [(.list true 0 [],false),(.list true 0 [],false),(.vref 4 0 1,false)],.cells [(.list true 0 [],false),(.list true 0 [],false),(.vref 4 0 1,false)],.vec 4 0 [.agg [Iv 0,.list true 0 [],.list true 0 [],.list true 0 []]]]⟩=some (qhj l d):=km (jwq l) (fun d=>by rcases d with d|d<;>(intro hh;cases hh)) h2
 rcases d with⟨d1,d2,d3⟩|⟨d1,d2⟩
 ·cases h
  simp only[qhj]at wl
  rcases d3 with _|v
  ·refine⟨[.hole,.cells [(.list true 0 [],false),(.list true 0 [],false),(.list true 0 [],false)],.cells [(.list true 0 [],false),(.list true 0 [],false),(.vref 4 0 1,false)],.cells [(.list true 0 [],false),(.list true 0 [],false),(.vref 4 0 1,false)],.vec 4 0 [.agg [Iv 0,.list true 0 [],.list true 0 [],.list true 0 []]]],?_,?_⟩
   ·simp only[HP1]at wl
    rw[zc (show pr.fns 47=some c47 from rfl) (by simp)]
    simp only[go_sem,seval,c47,h1,w,wa,wl]<;>rfl
   ·simp only[go_sem,seval,rs1,HR1]<;>rfl
  refine⟨[.hole,.cells [(.list true 0 [],false),(.list true 0 [],false),(.list true 0 [],false)],.cells [(.vref 7 v.ve v.ev.length,false),(.vref 5 v.vc v.lc,false),(.vref 4 v.vs v.ls,false)],.cells [(.list true 0 [],false),(.list true 0 [],false),(.vref 4 0 1,false)],.vec 4 v.vs (v.ss.map yr),.vec 5 v.vc (v.cs.map vev),.hole,.vec 5 v.ve (v.ev.map vev)],?_,?_⟩
  ·simp only[HP1]at wl
   rw[zc (show pr.fns 47=some c47 from rfl) (by simp)]
   simp only[go_sem,seval,c47,h1,w,wa,wl]<;>rfl
  ·simp only[go_sem,seval,rs1,HR1]<;>rfl
 cases h
 simp only[qhj]at wl
 refine⟨HQ1 d2,?_,?_⟩
 ·rw[zc (show pr.fns 47=some c47 from rfl) (by simp)]
  rcases d2 with _|v
  ·simp only[HP1]at wl
   simp only[go_sem,seval,c47,h1,w,wa,wl,hv1,HQ1]<;>rfl
  simp only[HP1]at wl
  simp only[go_sem,seval,c47,h1,w,wa,wl,hv1,HQ1]<;>rfl
 ·rcases d2 with _|v
  ·simp only[go_sem,seval,rs1,HR1,hv1,HQ1]<;>rfl
  simp only[go_sem,seval,rs1,HR1,hv1,HQ1]<;>rfl
theorem jh3:zj pr (X pr) 48 [.ptr 0 0] [.cells [(.list true 0 [],false),(.list true 0 [],false),(.vref 4 0 1,false)],.cells [(.list true 0 [],false),(.list true 0 [],false),(.vref 4 0 1,false)],.cells [(.list true 0 [],false),(.list true 0 [],false),(.vref 4 0 1,false)],.cells [(.list true 0 [],false),(.list true 0 [],false),(.vref 4 0 1,false)],.vec 4 0 [.agg [Iv 0,.list true 0 [],.list true 0 [],.list true 0 []]]]=some (.agg [Iv 0,.list true 0 [],.list true 0 [],.list true 0 []],false,[.cells [(.list true 0 [],false),(.list true 0 [],false),(.vref 4 0 1,false)],.cells [(.list true 0 [],false),(.list true 0 [],false),(.vref 4 0 1,false)],.cells [(.list true 0 [],false),(.list true 0 [],false),(.vref 4 0 1,false)],.cells [(.list true 0 [],false),(.list true 0 [],false),(.vref 4 0 1,false)],.vec 4 0 [.agg [Iv 0,.list true 0 [],.list true 0 [],.list true 0 []]],.cells [(Iv 0,false),(.list true 0 [],false),(.list true 0 [],false),(.list true 0 [],false)]]):=by
 have g1:∀h:zb,qd2 4 h (some (.vref 4 0 1)) (some (Iv (j8 .i64 0)))=some ⟨.vel 4 0 0,false,none,h⟩:=fun h=>(qf8 (l:=[zreg]) (x:=zreg) rfl).1
 have g2:qa5 6 (some []) true 4 [.cells [(.list true 0 [],false),(.list true 0 [],false),(.vref 4 0 1,false)],.cells [(.list true 0 [],false),(.list true 0 [],false),(.vref 4 0 1,false)],.cells [(.list true 0 [],false),(.list true 0 [],false),(.vref 4 0 1,false)],.cells [(.list true 0 [],false),(.list true 0 [],false),(.vref 4 0 1,false)],.vec 4 0 [.agg [Iv 0,.list true 0 [],.list true 0 [],.list true 0 []]],.cells [(Iv 0,false),(.list true 0 [],false),(.list true 0 [],false),(.list true 0 [],false)]] (some (.vel 4 0 0))=some ⟨.agg [Iv 0,.list true 0 [],.list true 0 [],.list true 0 []],false,none,[.cells [(.list true 0 [],false),(.list true 0 [],false),(.vref 4 0 1,false)],.cells [(.list true 0 [],false),(.list true 0 [],false),(.vref 4 0 1,false)],.cells [(.list true 0 [],false),(.list true 0 [],false),(.vref 4 0 1,false)],.cells [(.list true 0 [],false),(.list true 0 [],false),(.vref 4 0 1,false)],.vec 4 0 [.agg [Iv 0,.list true 0 [],.list true 0 [],.list true 0 []]],.cells [(Iv 0,false),(.list true 0 [],false),(.list true 0 [],false),(.list true 0 [],false)]]⟩:=rfl
 rw[zc (show pr.fns 48=some c48 from rfl) (by simp)]
 simp only[go_sem,seval,c48,g1,g2]<;>rfl
theorem jhh {e:ql}{q}(h:qlg e=some q):∃hh,zj pr (X pr) 65 [.ptr 0 0,.agg [Iv e.number,.str e.kind,sl 1 yc e.names,sl 1 yb e.values,.str e.text]] [.cells [(.list true 0 [],false),(.list true 0 [],false),(.vref 4 0 1,false)],.cells [(.list true 0 [],false),(.list true 0 [],false),(.vref 4 0 1,false)],.cells [(.list true 0 [],false),(.list true 0 [],false),(.vref 4 0 1,false)],.cells [(.list true 0 [],false),(.list true 0 [],false),(.vref 4 0 1,false)],.vec 4 0 [.agg [Iv 0,.list true 0 [],.list true 0 [],.list true 0 []]]]=some (Iv q.1,false,hh):=by
 unfold qlg at h
 rcases jx h with⟨h1,h⟩|⟨h1,h⟩
 ·rcases jx h with⟨h2,h⟩|⟨h2,h⟩
  ·obtain⟨e1,k1,h⟩:=jw h
   obtain⟨e2,k3,h⟩:=jw h
   obtain⟨e3,k4,h⟩:=jw h
   have w1:=W53 k1
   have w2:=W53 k3
   have w3:j6 pr (X pr) 51 [.list false 1 [Iv e1,Iv e2]]=some (Iv e3,false):=W51 k4
   rcases jx h with⟨h4,h⟩|⟨h4,h⟩
   ·cases h
   cases h
   refine⟨[.cells [(.list true 0 [],false),(.list true 0 [],false),(.vref 4 0 1,false)],.cells [(.list true 0 [],false),(.list true 0 [],false),(.vref 4 0 1,false)],.cells [(.list true 0 [],false),(.list true 0 [],false),(.vref 4 0 1,false)],.cells [(.list true 0 [],false),(.list true 0 [],false),(.vref 4 0 1,false)],.vec 4 0 [.agg [Iv 0,.list true 0 [],.list true 0 [],.list true 0 []]]],?_⟩
   rw[zc (show pr.fns 65=some c65 from rfl) (by simp)]
   simp only[go_sem,seval,c65,h1,h2,w1,w2,w3,h4,qt4,jes,jft]<;>rfl
  obtain⟨v,k2,h⟩:=jw h
  have w1:=jh3
  have wa:yt 5 (.agg [Iv 0,.list true 0 [],.list true 0 [],.list true 0 []]) [.cells [(.list true 0 [],false),(.list true 0 [],false),(.vref 4 0 1,false)],.cells [(.list true 0 [],false),(.list true 0 [],false),(.vref 4 0 1,false)],.cells [(.list true 0 [],false),(.list true 0 [],false),(.vref 4 0 1,false)],.cells [(.list true 0 [],false),(.list true 0 [],false),(.vref 4 0 1,false)],.vec 4 0 [.agg [Iv 0,.list true 0 [],.list true 0 [],.list true 0 []]],.cells [(Iv 0,false),(.list true 0 [],false),(.list true 0 [],false),(.list true 0 [],false)]]=[.cells [(.list true 0 [],false),(.list true 0 [],false),(.vref 4 0 1,false)],.cells [(.list true 0 [],false),(.list true 0 [],false),(.vref 4 0 1,false)],.cells [(.list true 0 [],false),(.list true 0 [],false),(.vref 4 0 1,false)],.cells [(.list true 0 [],false),(.list true 0 [],false),(.vref 4 0 1,false)],.vec 4 0 [.agg [Iv 0,.list true 0 [],.list true 0 [],.list true 0 []]]]:=by simp only[go_sem,seval]<;>rfl
  have w2:j6 pr (X pr) 121 [.agg [Iv 0,.list true 0 [],.list true 0 [],.list true 0 []],.agg [Iv e.number,.str e.kind,sl 1 yc e.names,sl 1 yb e.values,.str e.text]]=some (.tup [.agg [Iv v.1.day,sl 5 zg v.1.lots,sl 4 za v.1.products,sl 8 vun v.1.units],Iv v.2],false):=qzn k2
  rcases jx h with⟨h3,h⟩|⟨h3,h⟩
  ·cases h
   have g1:qbw 5 0 5 88 [.cells [(.list true 0 [],false),(.list true 0 [],false),(.vref 4 0 1,false)],.cells [(.list true 0 [],false),(.list true 0 [],false),(.vref 4 0 1,false)],.cells [(.list true 0 [],false),(.list true 0 [],false),(.vref 4 0 1,false)],.cells [(.list true 0 [],false),(.list true 0 [],false),(.vref 4 0 1,false)],.vec 4 0 [.agg [Iv 0,.list true 0 [],.list true 0 [],.list true 0 []]],.hole,.hole] (some (.list true 0 [])) (some (.list false 5 [.agg [Iv e.number,.str e.kind,sl 1 yc e.names,sl 1 yb e.values,.str e.text]]))=some ⟨.vref 5 0 1,false,none,[.cells [(.list true 0 [],false),(.list true 0 [],false),(.vref 4 0 1,false)],.cells [(.list true 0 [],false),(.list true 0 [],false),(.vref 4 0 1,false)],.cells [(.list true 0 [],false),(.list true 0 [],false),(.vref 4 0 1,false)],.cells [(.list true 0 [],false),(.list true 0 [],false),(.vref 4 0 1,false)],.vec 4 0 [.agg [Iv 0,.list true 0 [],.list true 0 [],.list true 0 []]],.vec 5 0 [.agg [Iv e.number,.str e.kind,sl 1 yc e.names,sl 1 yb e.values,.str e.text]],.hole]⟩:=by yf qjo<;>first|rfl|decide|(simp only[go_sem,seval]<;>done)|simp
   have g2:qbw 5 1 4 80 [.cells [(.list true 0 [],false),(.list true 0 [],false),(.vref 4 0 1,false)],.cells [(.list true 0 [],false),(.list true 0 [],false),(.vref 4 0 1,false)],.cells [(.list true 0 [],false),(.list true 0 [],false),(.vref 4 0 1,false)],.cells [(.list true 0 [],false),(.list true 0 [],false),(.vref 4 0 1,false)],.vec 4 0 [.agg [Iv 0,.list true 0 [],.list true 0 [],.list true 0 []]],.vec 5 0 [.agg [Iv e.number,.str e.kind,sl 1 yc e.names,sl 1 yb e.values,.str e.text]],.hole] (some (.vref 4 0 1)) (some (.list false 4 [.agg [Iv v.1.day,sl 5 zg v.1.lots,sl 4 za v.1.products,sl 8 vun v.1.units]]))=some ⟨.vref 4 1 2,false,none,[.cells [(.list true 0 [],false),(.list true 0 [],false),(.vref 4 0 1,false)],.cells [(.list true 0 [],false),(.list true 0 [],false),(.vref 4 0 1,false)],.cells [(.list true 0 [],false),(.list true 0 [],false),(.vref 4 0 1,false)],.cells [(.list true 0 [],false),(.list true 0 [],false),(.vref 4 0 1,false)],.vec 4 1 [.agg [Iv 0,.list true 0 [],.list true 0 [],.list true 0 []],.agg [Iv v.1.day,sl 5 zg v.1.lots,sl 4 za v.1.products,sl 8 vun v.1.units]],.vec 5 0 [.agg [Iv e.number,.str e.kind,sl 1 yc e.names,sl 1 yb e.values,.str e.text]],.hole]⟩:=qfp (f:=yr) (l:=[zreg]) (l':=[zreg,v.1]) (x:=v.1) rfl rfl (by simp only[go_sem,seval]) (by decide) (by decide) (by decide)
   have g3:qbw 7 0 5 88 [.cells [(.list true 0 [],false),(.vref 5 0 1,false),(.vref 4 1 2,false)],.cells [(.list true 0 [],false),(.list true 0 [],false),(.vref 4 0 1,false)],.cells [(.list true 0 [],false),(.list true 0 [],false),(.vref 4 0 1,false)],.cells [(.list true 0 [],false),(.list true 0 [],false),(.vref 4 0 1,false)],.vec 4 1 [.agg [Iv 0,.list true 0 [],.list true 0 [],.list true 0 []],.agg [Iv v.1.day,sl 5 zg v.1.lots,sl 4 za v.1.products,sl 8 vun v.1.units]],.vec 5 0 [.agg [Iv e.number,.str e.kind,sl 1 yc e.names,sl 1 yb e.values,.str e.text]],.hole,.hole] (some (.list true 0 [])) (some (.list false 5 [.agg [Iv e.number,.str e.kind,sl 1 yc e.names,sl 1 yb e.values,.str e.text]]))=some ⟨.vref 7 0 1,false,none,[.cells [(.list true 0 [],false),(.vref 5 0 1,false),(.vref 4 1 2,false)],.cells [(.list true 0 [],false),(.list true 0 [],false),(.vref 4 0 1,false)],.cells [(.list true 0 [],false),(.list true 0 [],false),(.vref 4 0 1,false)],.cells [(.list true 0 [],false),(.list true 0 [],false),(.vref 4 0 1,false)],.vec 4 1 [.agg [Iv 0,.list true 0 [],.list true 0 [],.list true 0 []],.agg [Iv v.1.day,sl 5 zg v.1.lots,sl 4 za v.1.products,sl 8 vun v.1.units]],.vec 5 0 [.agg [Iv e.number,.str e.kind,sl 1 yc e.names,sl 1 yb e.values,.str e.text]],.hole,.vec 5 0 [.agg [Iv e.number,.str e.kind,sl 1 yc e.names,sl 1 yb e.values,.str e.text]]]⟩:=by yf qjo<;>first|rfl|decide|(simp only[go_sem,seval]<;>done)|simp
   refine⟨[.cells [(.vref 7 0 1,false),(.vref 5 0 1,false),(.vref 4 1 2,false)],.cells [(.list true 0 [],false),(.list true 0 [],false),(.vref 4 0 1,false)],.cells [(.list true 0 [],false),(.list true 0 [],false),(.vref 4 0 1,false)],.cells [(.list true 0 [],false),(.list true 0 [],false),(.vref 4 0 1,false)],.vec 4 1 [.agg [Iv 0,.list true 0 [],.list true 0 [],.list true 0 []],.agg [Iv v.1.day,sl 5 zg v.1.lots,sl 4 za v.1.products,sl 8 vun v.1.units]],.vec 5 0 [.agg [Iv e.number,.str e.kind,sl 1 yc e.names,sl 1 yb e.values,.str e.text]],.hole,.vec 5 0 [.agg [Iv e.number,.str e.kind,sl 1 yc e.names,sl 1 yb e.values,.str e.text]]],?_⟩
   rw[zc (show pr.fns 65=some c65 from rfl) (by simp)]
   simp only[go_sem,seval,c65,h1,h2,w1,wa,w2,h3,g1,g2,g3,qt4]<;>rfl
  cases h
  refine⟨[.cells [(.list true 0 [],false),(.list true 0 [],false),(.vref 4 0 1,false)],.cells [(.list true 0 [],false),(.list true 0 [],false),(.vref 4 0 1,false)],.cells [(.list true 0 [],false),(.list true 0 [],false),(.vref 4 0 1,false)],.cells [(.list true 0 [],false),(.list true 0 [],false),(.vref 4 0 1,false)],.vec 4 0 [.agg [Iv 0,.list true 0 [],.list true 0 [],.list true 0 []]]],?_⟩
  rw[zc (show pr.fns 65=some c65 from rfl) (by simp)]
  simp only[go_sem,seval,c65,h1,h2,w1,wa,w2,h3]<;>rfl
 cases h
 refine⟨[.cells [(.list true 0 [],false),(.list true 0 [],false),(.vref 4 0 1,false)],.cells [(.list true 0 [],false),(.list true 0 [],false),(.vref 4 0 1,false)],.cells [(.list true 0 [],false),(.list true 0 [],false),(.vref 4 0 1,false)],.cells [(.list true 0 [],false),(.list true 0 [],false),(.vref 4 0 1,false)],.vec 4 0 [.agg [Iv 0,.list true 0 [],.list true 0 [],.list true 0 []]]],?_⟩
 rw[zc (show pr.fns 65=some c65 from rfl) (by simp)]
 simp only[go_sem,seval,c65,h1]<;>rfl
theorem jmr {s:HV}{r:qc}(hx:zz (s.ss.take s.ls) (j8 .i64 ((s.ls:Int)-1))=some r):zj pr (X pr) 48 [.ptr 0 0] [.cells [(.vref 7 s.ve s.ev.length,false),(.vref 5 s.vc s.lc,false),(.vref 4 s.vs s.ls,false)],.cells [(.vref 7 s.ve s.ev.length,false),(.vref 5 s.vc s.lc,false),(.vref 4 s.vs s.ls,false)],.cells [(.vref 7 s.ve s.ev.length,false),(.vref 5 s.vc s.lc,false),(.vref 4 s.vs s.ls,false)],.cells [(.list true 0 [],false),(.list true 0 [],false),(.vref 4 0 1,false)],.vec 4 s.vs (s.ss.map yr),.vec 5 s.vc (s.cs.map vev),.hole,.vec 5 s.ve (s.ev.map vev)]=some (.agg [Iv r.day,sl 5 zg r.lots,sl 4 za r.products,sl 8 vun r.units],false,[.cells [(.vref 7 s.ve s.ev.length,false),(.vref 5 s.vc s.lc,false),(.vref 4 s.vs s.ls,false)],.cells [(.vref 7 s.ve s.ev.length,false),(.vref 5 s.vc s.lc,false),(.vref 4 s.vs s.ls,false)],.cells [(.vref 7 s.ve s.ev.length,false),(.vref 5 s.vc s.lc,false),(.vref 4 s.vs s.ls,false)],.cells [(.list true 0 [],false),(.list true 0 [],false),(.vref 4 0 1,false)],.vec 4 s.vs (s.ss.map yr),.vec 5 s.vc (s.cs.map vev),.hole,.vec 5 s.ve (s.ev.map vev),.cells [(Iv r.day,false),(sl 5 zg r.lots,false),(sl 4 za r.products,false),(sl 8 vun r.units,false)]]):=by
 have g1:∀h:zb,qd2 4 h (some (.vref 4 s.vs s.ls)) (some (Iv (j8 .i64 ((s.ls:Int)-1))))=some ⟨.vel 4 s.vs ((j8 .i64 ((s.ls:Int)-1)).toNat*4),false,none,h⟩:=fun h=>(qf8 hx).1
 have g2:qa5 9 (some []) true 4 [.cells [(.vref 7 s.ve s.ev.length,false),(.vref 5 s.vc s.lc,false),(.vref 4 s.vs s.ls,false)],.cells [(.vref 7 s.ve s.ev.length,false),(.vref 5 s.vc s.lc,false),(.vref 4 s.vs s.ls,false)],.cells [(.vref 7 s.ve s.ev.length,false),(.vref 5 s.vc s.lc,false),(.vref 4 s.vs s.ls,false)],.cells [(.list true 0 [],false),(.list true 0 [],false),(.vref 4 0 1,false)],.vec 4 s.vs (s.ss.map yr),.vec 5 s.vc (s.cs.map vev),.hole,.vec 5 s.ve (s.ev.map vev),.cells [(Iv 0,false),(.list true 0 [],false),(.list true 0 [],false),(.list true 0 [],false)]] (some (.vel 4 s.vs ((j8 .i64 ((s.ls:Int)-1)).toNat*4)))=some ⟨.agg [Iv r.day,sl 5 zg r.lots,sl 4 za r.products,sl 8 vun r.units],false,none,[.cells [(.vref 7 s.ve s.ev.length,false),(.vref 5 s.vc s.lc,false),(.vref 4 s.vs s.ls,false)],.cells [(.vref 7 s.ve s.ev.length,false),(.vref 5 s.vc s.lc,false),(.vref 4 s.vs s.ls,false)],.cells [(.vref 7 s.ve s.ev.length,false),(.vref 5 s.vc s.lc,false),(.vref 4 s.vs s.ls,false)],.cells [(.list true 0 [],false),(.list true 0 [],false),(.vref 4 0 1,false)],.vec 4 s.vs (s.ss.map yr),.vec 5 s.vc (s.cs.map vev),.hole,.vec 5 s.ve (s.ev.map vev),.cells [(Iv 0,false),(.list true 0 [],false),(.list true 0 [],false),(.list true 0 [],false)]]⟩:=qv7 q1q rfl rfl (qf8 (sz:=4) (b:=0) (v:=0) (h:=[]) hx).2
 rw[zc (show pr.fns 48=some c48 from rfl) (by simp)]
 simp only[go_sem,seval,c48,g1,g2]<;>rfl
theorem jnf {s:HV}{e:ql}{q}(h:qqw s e=some q):∃hh,zj pr (X pr) 65 [.ptr 0 0,.agg [Iv e.number,.str e.kind,sl 1 yc e.names,sl 1 yb e.values,.str e.text]] [.cells [(.vref 7 s.ve s.ev.length,false),(.vref 5 s.vc s.lc,false),(.vref 4 s.vs s.ls,false)],.cells [(.vref 7 s.ve s.ev.length,false),(.vref 5 s.vc s.lc,false),(.vref 4 s.vs s.ls,false)],.cells [(.vref 7 s.ve s.ev.length,false),(.vref 5 s.vc s.lc,false),(.vref 4 s.vs s.ls,false)],.cells [(.list true 0 [],false),(.list true 0 [],false),(.vref 4 0 1,false)],.vec 4 s.vs (s.ss.map yr),.vec 5 s.vc (s.cs.map vev),.hole,.vec 5 s.ve (s.ev.map vev)]=some (Iv q.1,false,hh):=by
 unfold qqw at h
 rcases jx h with⟨h1,h⟩|⟨h1,h⟩
 ·rcases jx h with⟨h2,h⟩|⟨h2,h⟩
  ·obtain⟨e1,k1,h⟩:=jw h
   have w1:=W53 k1
   rcases jx h with⟨h3,h⟩|⟨h3,h⟩
   ·obtain⟨x,k2,h⟩:=jw h
    obtain⟨e2,k3,h⟩:=jw h
    obtain⟨e3,k4,h⟩:=jw h
    have w2:=W53 k3
    have w3:j6 pr (X pr) 51 [.list false 1 [Iv e1,Iv e2]]=some (Iv e3,false):=W51 k4
    have g1:∀h:zb,qd2 5 h (some (.vref 5 s.vc s.lc)) (some (Iv (max 0 (j8 .i64 ((s.lc:Int)-1)))))=some ⟨.vel 5 s.vc ((max 0 (j8 .i64 ((s.lc:Int)-1))).toNat*5),false,none,h⟩:=fun h=>(qf8 k2).1
    have g2:qa5 8 none false 1 [.cells [(.vref 7 s.ve s.ev.length,false),(.vref 5 s.vc s.lc,false),(.vref 4 s.vs s.ls,false)],.cells [(.vref 7 s.ve s.ev.length,false),(.vref 5 s.vc s.lc,false),(.vref 4 s.vs s.ls,false)],.cells [(.vref 7 s.ve s.ev.length,false),(.vref 5 s.vc s.lc,false),(.vref 4 s.vs s.ls,false)],.cells [(.list true 0 [],false),(.list true 0 [],false),(.vref 4 0 1,false)],.vec 4 s.vs (s.ss.map yr),.vec 5 s.vc (s.cs.map vev),.hole,.vec 5 s.ve (s.ev.map vev)] (some (.vel 5 s.vc ((max 0 (j8 .i64 ((s.lc:Int)-1))).toNat*5+1)))=some ⟨.str x.kind,false,none,[.cells [(.vref 7 s.ve s.ev.length,false),(.vref 5 s.vc s.lc,false),(.vref 4 s.vs s.ls,false)],.cells [(.vref 7 s.ve s.ev.length,false),(.vref 5 s.vc s.lc,false),(.vref 4 s.vs s.ls,false)],.cells [(.vref 7 s.ve s.ev.length,false),(.vref 5 s.vc s.lc,false),(.vref 4 s.vs s.ls,false)],.cells [(.list true 0 [],false),(.list true 0 [],false),(.vref 4 0 1,false)],.vec 4 s.vs (s.ss.map yr),.vec 5 s.vc (s.cs.map vev),.hole,.vec 5 s.ve (s.ev.map vev)]⟩:=q17 (f:=vev) (o:=1) jed rfl rfl (qf8 (sz:=4) (b:=0) (v:=0) (h:=[]) k2).2 rfl
    rcases jx h with⟨h4,h⟩|⟨h4,h⟩
    ·rcases jx h with⟨h5,h⟩|⟨_,h⟩
     ·obtain⟨ev,hev,h⟩:=jw h
      cases h
      have c5:=of_decide_eq_true h5
      have hln:ev.length=s.ev.length+1:=qif hev
      have g3:∀h:zb,qi0 5 h (some (.vref 5 s.vc s.lc)) none (some (some (Iv (j8 .i64 ((s.lc:Int)-1)))))=some ⟨.vref 5 s.vc (j8 .i64 ((s.lc:Int)-1)).toNat,false,none,h⟩:=fun h=>qy8 c5.1 c5.2.1
      have g4:∀h:zb,qi0 4 h (some (.vref 4 s.vs s.ls)) none (some (some (Iv (s.lc:Int))))=some ⟨.vref 4 s.vs s.lc,false,none,h⟩:=fun h=>qy8 (by omega) (by have:=c5.2.2;omega)
      have g5:qbw 8 0 5 88 [.cells [(.vref 7 s.ve s.ev.length,false),(.vref 5 s.vc (j8 .i64 ((s.lc:Int)-1)).toNat,false),(.vref 4 s.vs s.lc,false)],.cells [(.vref 7 s.ve s.ev.length,false),(.vref 5 s.vc s.lc,false),(.vref 4 s.vs s.ls,false)],.cells [(.vref 7 s.ve s.ev.length,false),(.vref 5 s.vc s.lc,false),(.vref 4 s.vs s.ls,false)],.cells [(.list true 0 [],false),(.list true 0 [],false),(.vref 4 0 1,false)],.vec 4 s.vs (s.ss.map yr),.vec 5 s.vc (s.cs.map vev),.hole,.vec 5 s.ve (s.ev.map vev),.hole] (some (.vref 7 s.ve s.ev.length)) (some (.list false 5 [.agg [Iv e.number,.str e.kind,sl 1 yc e.names,sl 1 yb e.values,.str e.text]]))=some ⟨.vref 7 (s.ve+1) (s.ev.length+1),false,none,[.cells [(.vref 7 s.ve s.ev.length,false),(.vref 5 s.vc (j8 .i64 ((s.lc:Int)-1)).toNat,false),(.vref 4 s.vs s.lc,false)],.cells [(.vref 7 s.ve s.ev.length,false),(.vref 5 s.vc s.lc,false),(.vref 4 s.vs s.ls,false)],.cells [(.vref 7 s.ve s.ev.length,false),(.vref 5 s.vc s.lc,false),(.vref 4 s.vs s.ls,false)],.cells [(.list true 0 [],false),(.list true 0 [],false),(.vref 4 0 1,false)],.vec 4 s.vs (s.ss.map yr),.vec 5 s.vc (s.cs.map vev),.hole,.vec 5 (s.ve+1) (ev.map vev),.hole]⟩:=qfp (f:=vev) (x:=e) hev rfl (by simp only[go_sem,seval]) (by decide) (by decide) (by decide)
      refine⟨[.cells [(.vref 7 (s.ve+1) (s.ev.length+1),false),(.vref 5 s.vc (j8 .i64 ((s.lc:Int)-1)).toNat,false),(.vref 4 s.vs s.lc,false)],.cells [(.vref 7 s.ve s.ev.length,false),(.vref 5 s.vc s.lc,false),(.vref 4 s.vs s.ls,false)],.cells [(.vref 7 s.ve s.ev.length,false),(.vref 5 s.vc s.lc,false),(.vref 4 s.vs s.ls,false)],.cells [(.list true 0 [],false),(.list true 0 [],false),(.vref 4 0 1,false)],.vec 4 s.vs (s.ss.map yr),.vec 5 s.vc (s.cs.map vev),.hole,.vec 5 (s.ve+1) (ev.map vev),.hole],?_⟩
      rw[zc (show pr.fns 65=some c65 from rfl) (by simp)]
      simp only[go_sem,seval,c65,h1,h2,w1,h3,g1,g2,w2,w3,h4,g3,g4,g5]<;>rfl
     cases h
    cases h
    refine⟨[.cells [(.vref 7 s.ve s.ev.length,false),(.vref 5 s.vc s.lc,false),(.vref 4 s.vs s.ls,false)],.cells [(.vref 7 s.ve s.ev.length,false),(.vref 5 s.vc s.lc,false),(.vref 4 s.vs s.ls,false)],.cells [(.vref 7 s.ve s.ev.length,false),(.vref 5 s.vc s.lc,false),(.vref 4 s.vs s.ls,false)],.cells [(.list true 0 [],false),(.list true 0 [],false),(.vref 4 0 1,false)],.vec 4 s.vs (s.ss.map yr),.vec 5 s.vc (s.cs.map vev),.hole,.vec 5 s.ve (s.ev.map vev)],?_⟩
    rw[zc (show pr.fns 65=some c65 from rfl) (by simp)]
    simp only[go_sem,seval,c65,h1,h2,w1,h3,g1,g2,w2,w3,h4]<;>rfl
   obtain⟨e2,k3,h⟩:=jw h
   obtain⟨e3,k4,h⟩:=jw h
   have w2:=W53 k3
   have w3:j6 pr (X pr) 51 [.list false 1 [Iv e1,Iv e2]]=some (Iv e3,false):=W51 k4
   rcases jx h with⟨h4,h⟩|⟨h4,h⟩
   ·cases h
   cases h
   refine⟨[.cells [(.vref 7 s.ve s.ev.length,false),(.vref 5 s.vc s.lc,false),(.vref 4 s.vs s.ls,false)],.cells [(.vref 7 s.ve s.ev.length,false),(.vref 5 s.vc s.lc,false),(.vref 4 s.vs s.ls,false)],.cells [(.vref 7 s.ve s.ev.length,false),(.vref 5 s.vc s.lc,false),(.vref 4 s.vs s.ls,false)],.cells [(.list true 0 [],false),(.list true 0 [],false),(.vref 4 0 1,false)],.vec 4 s.vs (s.ss.map yr),.vec 5 s.vc (s.cs.map vev),.hole,.vec 5 s.ve (s.ev.map vev)],?_⟩
   rw[zc (show pr.fns 65=some c65 from rfl) (by simp)]
   simp only[go_sem,seval,c65,h1,h2,w1,h3,w2,w3,h4]<;>rfl
  obtain⟨r,k1,h⟩:=jw h
  obtain⟨v,k2,h⟩:=jw h
  have w1:=jmr k1
  have wa:yt 8 (.agg [Iv r.day,sl 5 zg r.lots,sl 4 za r.products,sl 8 vun r.units]) [.cells [(.vref 7 s.ve s.ev.length,false),(.vref 5 s.vc s.lc,false),(.vref 4 s.vs s.ls,false)],.cells [(.vref 7 s.ve s.ev.length,false),(.vref 5 s.vc s.lc,false),(.vref 4 s.vs s.ls,false)],.cells [(.vref 7 s.ve s.ev.length,false),(.vref 5 s.vc s.lc,false),(.vref 4 s.vs s.ls,false)],.cells [(.list true 0 [],false),(.list true 0 [],false),(.vref 4 0 1,false)],.vec 4 s.vs (s.ss.map yr),.vec 5 s.vc (s.cs.map vev),.hole,.vec 5 s.ve (s.ev.map vev),.cells [(Iv r.day,false),(sl 5 zg r.lots,false),(sl 4 za r.products,false),(sl 8 vun r.units,false)]]=[.cells [(.vref 7 s.ve s.ev.length,false),(.vref 5 s.vc s.lc,false),(.vref 4 s.vs s.ls,false)],.cells [(.vref 7 s.ve s.ev.length,false),(.vref 5 s.vc s.lc,false),(.vref 4 s.vs s.ls,false)],.cells [(.vref 7 s.ve s.ev.length,false),(.vref 5 s.vc s.lc,false),(.vref 4 s.vs s.ls,false)],.cells [(.list true 0 [],false),(.list true 0 [],false),(.vref 4 0 1,false)],.vec 4 s.vs (s.ss.map yr),.vec 5 s.vc (s.cs.map vev),.hole,.vec 5 s.ve (s.ev.map vev)]:=by simp only[go_sem,seval]<;>rfl
  have w2:j6 pr (X pr) 121 [.agg [Iv r.day,sl 5 zg r.lots,sl 4 za r.products,sl 8 vun r.units],.agg [Iv e.number,.str e.kind,sl 1 yc e.names,sl 1 yb e.values,.str e.text]]=some (.tup [.agg [Iv v.1.day,sl 5 zg v.1.lots,sl 4 za v.1.products,sl 8 vun v.1.units],Iv v.2],false):=qzn k2
  rcases jx h with⟨h3,h⟩|⟨h3,h⟩
  ·obtain⟨cs,hcs,h⟩:=jw h
   obtain⟨ss,hss,h⟩:=jw h
   obtain⟨ev,hev,h⟩:=jw h
   cases h
   have hln:ev.length=s.ev.length+1:=qif hev
   have g1:qbw 8 0 5 88 [.cells [(.vref 7 s.ve s.ev.length,false),(.vref 5 s.vc s.lc,false),(.vref 4 s.vs s.ls,false)],.cells [(.vref 7 s.ve s.ev.length,false),(.vref 5 s.vc s.lc,false),(.vref 4 s.vs s.ls,false)],.cells [(.vref 7 s.ve s.ev.length,false),(.vref 5 s.vc s.lc,false),(.vref 4 s.vs s.ls,false)],.cells [(.list true 0 [],false),(.list true 0 [],false),(.vref 4 0 1,false)],.vec 4 s.vs (s.ss.map yr),.vec 5 s.vc (s.cs.map vev),.hole,.vec 5 s.ve (s.ev.map vev),.hole,.hole] (some (.vref 5 s.vc s.lc)) (some (.list false 5 [.agg [Iv e.number,.str e.kind,sl 1 yc e.names,sl 1 yb e.values,.str e.text]]))=some ⟨.vref 5 (s.vc+1) (s.lc+1),false,none,[.cells [(.vref 7 s.ve s.ev.length,false),(.vref 5 s.vc s.lc,false),(.vref 4 s.vs s.ls,false)],.cells [(.vref 7 s.ve s.ev.length,false),(.vref 5 s.vc s.lc,false),(.vref 4 s.vs s.ls,false)],.cells [(.vref 7 s.ve s.ev.length,false),(.vref 5 s.vc s.lc,false),(.vref 4 s.vs s.ls,false)],.cells [(.list true 0 [],false),(.list true 0 [],false),(.vref 4 0 1,false)],.vec 4 s.vs (s.ss.map yr),.vec 5 (s.vc+1) (cs.map vev),.hole,.vec 5 s.ve (s.ev.map vev),.hole,.hole]⟩:=qfp (f:=vev) (x:=e) hcs rfl (by simp only[go_sem,seval]) (by decide) (by decide) (by decide)
   have g2:qbw 8 1 4 80 [.cells [(.vref 7 s.ve s.ev.length,false),(.vref 5 s.vc s.lc,false),(.vref 4 s.vs s.ls,false)],.cells [(.vref 7 s.ve s.ev.length,false),(.vref 5 s.vc s.lc,false),(.vref 4 s.vs s.ls,false)],.cells [(.vref 7 s.ve s.ev.length,false),(.vref 5 s.vc s.lc,false),(.vref 4 s.vs s.ls,false)],.cells [(.list true 0 [],false),(.list true 0 [],false),(.vref 4 0 1,false)],.vec 4 s.vs (s.ss.map yr),.vec 5 (s.vc+1) (cs.map vev),.hole,.vec 5 s.ve (s.ev.map vev),.hole,.hole] (some (.vref 4 s.vs s.ls)) (some (.list false 4 [.agg [Iv v.1.day,sl 5 zg v.1.lots,sl 4 za v.1.products,sl 8 vun v.1.units]]))=some ⟨.vref 4 (s.vs+1) (s.ls+1),false,none,[.cells [(.vref 7 s.ve s.ev.length,false),(.vref 5 s.vc s.lc,false),(.vref 4 s.vs s.ls,false)],.cells [(.vref 7 s.ve s.ev.length,false),(.vref 5 s.vc s.lc,false),(.vref 4 s.vs s.ls,false)],.cells [(.vref 7 s.ve s.ev.length,false),(.vref 5 s.vc s.lc,false),(.vref 4 s.vs s.ls,false)],.cells [(.list true 0 [],false),(.list true 0 [],false),(.vref 4 0 1,false)],.vec 4 (s.vs+1) (ss.map yr),.vec 5 (s.vc+1) (cs.map vev),.hole,.vec 5 s.ve (s.ev.map vev),.hole,.hole]⟩:=qfp (f:=yr) (x:=v.1) hss rfl (by simp only[go_sem,seval]) (by decide) (by decide) (by decide)
   have g3:qbw 10 0 5 88 [.cells [(.vref 7 s.ve s.ev.length,false),(.vref 5 (s.vc+1) (s.lc+1),false),(.vref 4 (s.vs+1) (s.ls+1),false)],.cells [(.vref 7 s.ve s.ev.length,false),(.vref 5 s.vc s.lc,false),(.vref 4 s.vs s.ls,false)],.cells [(.vref 7 s.ve s.ev.length,false),(.vref 5 s.vc s.lc,false),(.vref 4 s.vs s.ls,false)],.cells [(.list true 0 [],false),(.list true 0 [],false),(.vref 4 0 1,false)],.vec 4 (s.vs+1) (ss.map yr),.vec 5 (s.vc+1) (cs.map vev),.hole,.vec 5 s.ve (s.ev.map vev),.hole,.hole,.hole] (some (.vref 7 s.ve s.ev.length)) (some (.list false 5 [.agg [Iv e.number,.str e.kind,sl 1 yc e.names,sl 1 yb e.values,.str e.text]]))=some ⟨.vref 7 (s.ve+1) (s.ev.length+1),false,none,[.cells [(.vref 7 s.ve s.ev.length,false),(.vref 5 (s.vc+1) (s.lc+1),false),(.vref 4 (s.vs+1) (s.ls+1),false)],.cells [(.vref 7 s.ve s.ev.length,false),(.vref 5 s.vc s.lc,false),(.vref 4 s.vs s.ls,false)],.cells [(.vref 7 s.ve s.ev.length,false),(.vref 5 s.vc s.lc,false),(.vref 4 s.vs s.ls,false)],.cells [(.list true 0 [],false),(.list true 0 [],false),(.vref 4 0 1,false)],.vec 4 (s.vs+1) (ss.map yr),.vec 5 (s.vc+1) (cs.map vev),.hole,.vec 5 (s.ve+1) (ev.map vev),.hole,.hole,.hole]⟩:=qfp (f:=vev) (x:=e) hev rfl (by simp only[go_sem,seval]) (by decide) (by decide) (by decide)
   refine⟨[.cells [(.vref 7 (s.ve+1) (s.ev.length+1),false),(.vref 5 (s.vc+1) (s.lc+1),false),(.vref 4 (s.vs+1) (s.ls+1),false)],.cells [(.vref 7 s.ve s.ev.length,false),(.vref 5 s.vc s.lc,false),(.vref 4 s.vs s.ls,false)],.cells [(.vref 7 s.ve s.ev.length,false),(.vref 5 s.vc s.lc,false),(.vref 4 s.vs s.ls,false)],.cells [(.list true 0 [],false),(.list true 0 [],false),(.vref 4 0 1,false)],.vec 4 (s.vs+1) (ss.map yr),.vec 5 (s.vc+1) (cs.map vev),.hole,.vec 5 (s.ve+1) (ev.map vev),.hole,.hole,.hole],?_⟩
   rw[zc (show pr.fns 65=some c65 from rfl) (by simp)]
   simp only[go_sem,seval,c65,h1,h2,w1,wa,w2,h3,g1,g2,g3]<;>rfl
  cases h
  refine⟨[.cells [(.vref 7 s.ve s.ev.length,false),(.vref 5 s.vc s.lc,false),(.vref 4 s.vs s.ls,false)],.cells [(.vref 7 s.ve s.ev.length,false),(.vref 5 s.vc s.lc,false),(.vref 4 s.vs s.ls,false)],.cells [(.vref 7 s.ve s.ev.length,false),(.vref 5 s.vc s.lc,false),(.vref 4 s.vs s.ls,false)],.cells [(.list true 0 [],false),(.list true 0 [],false),(.vref 4 0 1,false)],.vec 4 s.vs (s.ss.map yr),.vec 5 s.vc (s.cs.map vev),.hole,.vec 5 s.ve (s.ev.map vev)],?_⟩
  rw[zc (show pr.fns 65=some c65 from rfl) (by simp)]
  simp only[go_sem,seval,c65,h1,h2,w1,wa,w2,h3]<;>rfl
 cases h
 refine⟨[.cells [(.vref 7 s.ve s.ev.length,false),(.vref 5 s.vc s.lc,false),(.vref 4 s.vs s.ls,false)],.cells [(.vref 7 s.ve s.ev.length,false),(.vref 5 s.vc s.lc,false),(.vref 4 s.vs s.ls,false)],.cells [(.vref 7 s.ve s.ev.length,false),(.vref 5 s.vc s.lc,false),(.vref 4 s.vs s.ls,false)],.cells [(.list true 0 [],false),(.list true 0 [],false),(.vref 4 0 1,false)],.vec 4 s.vs (s.ss.map yr),.vec 5 s.vc (s.cs.map vev),.hole,.vec 5 s.ve (s.ev.map vev)],?_⟩
 rw[zc (show pr.fns 65=some c65 from rfl) (by simp)]
 simp only[go_sem,seval,c65,h1]<;>rfl
noncomputable def f15 (l:Option (List ql))(e:ql):Option Int:=jy (f47 l) fun r=>jy (f11 e) fun c=>jy (f53 (decide (1000≤((l.getD []).length:Int))) 5) fun k=>match r with
 | .inl x=>jy (f51 (some [x.2,c,k])) fun e1=>cond (decide (e1=0)) none (some e1)
 | .inr o=>jy (f51 (some [0,c,k])) fun e1=>cond (decide (e1=0)) (jy (f66 e) fun e2=>jy (q2y o e2) fun q=>some q.1) (some e1)
theorem W15 {l:Option (List ql)}{e:ql}{r}(h:f15 l e=some r):j6 pr (X pr) 15 [sl 5 vev l,.agg [Iv e.number,.str e.kind,sl 1 yc e.names,sl 1 yb e.values,.str e.text]]=some (Iv r,false):=by
 unfold f15 at h
 obtain⟨x,h1,h⟩:=jw h
 obtain⟨c,h2,h⟩:=jw h
 obtain⟨k,h3,h⟩:=jw h
 obtain⟨hh,w,wa⟩:=jqt h1
 have w1:j6 pr (X pr) 11 [.agg [Iv e.number,.str e.kind,sl 1 yc e.names,sl 1 yb e.values,.str e.text]]=some (Iv c,false):=W11 h2
 have w2:=W53 h3
 suffices this:∃hh,zj pr (X pr) 15 [sl 5 vev l,.agg [Iv e.number,.str e.kind,sl 1 yc e.names,sl 1 yb e.values,.str e.text]] []=some (Iv r,false,hh) by
  obtain⟨hh,this⟩:=this
  exact qbj rfl this (by first|rfl|simp only[go_sem,seval]) (by first|rfl|simp only[go_sem,seval])
 rcases x with x|o
 ·obtain⟨e1,h4,h⟩:=jw h
  have w3:j6 pr (X pr) 51 [.list false 1 [Iv x.2,Iv c,Iv k]]=some (Iv e1,false):=W51 h4
  rcases jx h with⟨h5,h⟩|⟨h5,h⟩
  ·cases h
  cases h
  simp only[rs1,HR1]at w wa
  rw[zc (show pr.fns 15=some c15 from rfl) (by simp)]
  simp only[go_sem,seval,c15,w,wa,w1,w2,w3,h5]
  exact⟨_,rfl⟩
 obtain⟨e1,h4,h⟩:=jw h
 have w3:j6 pr (X pr) 51 [.list false 1 [Iv 0,Iv c,Iv k]]=some (Iv e1,false):=W51 h4
 rcases jx h with⟨h5,h⟩|⟨h5,h⟩
 ·obtain⟨e2,h6,h⟩:=jw h
  obtain⟨q,h7,h⟩:=jw h
  cases h
  have w4:j6 pr (X pr) 66 [.agg [Iv e.number,.str e.kind,sl 1 yc e.names,sl 1 yb e.values,.str e.text]]=some (.agg [Iv e2.number,.str e2.kind,sl 1 yc e2.names,sl 1 yb e2.values,.str e2.text],false):=W66 h6
  rcases o with _|v
  ·simp only[rs1,HR1,HQ1,hv1]at w wa
   obtain⟨h8,w5⟩:=jhh (e:=e2) h7
   rw[zc (show pr.fns 15=some c15 from rfl) (by simp)]
   simp only[go_sem,seval,c15,w,wa,w1,w2,w3,h5,w4,w5]
   exact⟨_,rfl⟩
  simp only[rs1,HR1,HQ1,hv1]at w wa
  obtain⟨q0,h9,h10⟩:=jw h7
  cases h10
  obtain⟨h8,w5⟩:=jnf (e:=e2) h9
  rw[zc (show pr.fns 15=some c15 from rfl) (by simp)]
  simp only[go_sem,seval,c15,w,wa,w1,w2,w3,h5,w4,w5]
  exact⟨_,rfl⟩
 cases h
 rcases o with _|v
 ·simp only[rs1,HR1,HQ1,hv1]at w wa
  rw[zc (show pr.fns 15=some c15 from rfl) (by simp)]
  simp only[go_sem,seval,c15,w,wa,w1,w2,w3,h5]
  exact⟨_,rfl⟩
 simp only[rs1,HR1,HQ1,hv1]at w wa
 rw[zc (show pr.fns 15=some c15 from rfl) (by simp)]
 simp only[go_sem,seval,c15,w,wa,w1,w2,w3,h5]
 exact⟨_,rfl⟩
end Go.Z
