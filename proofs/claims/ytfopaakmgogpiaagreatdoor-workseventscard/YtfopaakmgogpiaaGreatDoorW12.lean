/- Chapter 10. -/
import Derived.Test.YtfopaakmgogpiaaGreatDoorV3
import Derived.Test.YtfopaakmgogpiaaGreatDoorAbsL
set_option linter.unusedVariables false
set_option linter.unusedSimpArgs false
set_option maxRecDepth 100000
set_option maxHeartbeats 4000000
noncomputable section
namespace Go.Z
open Go Go.Abs Go.W
def f126 (a0:qc)(a1:ql):Option (qc×Int):=
 jy (zz (a1.names.getD []) 0) fun v1=>
 jy (f28 a0 v1) fun v3=>
 cond (decide (v3<0))
  (some (a0,10))
  (jy (zz (a0.lots.getD []) v3) fun v6=>
  cond (decide (a1.kind=([104,111,108,100]:List UInt8)))
   (cond v6.held
    (some (a0,34))
    (cond (decide (a1.kind=([102,114,101,101]:List UInt8)))
     (some (a0,20))
     (jy (f206 a0 v3 (⟨v6.name,v6.kind,v6.count,v6.left,true⟩)) fun v11=>
     some (v11,0))))
   (cond (decide (a1.kind=([102,114,101,101]:List UInt8)))
    (cond v6.held
     (jy (f206 a0 v3 (⟨v6.name,v6.kind,v6.count,v6.left,false⟩)) fun v15=>
     some (v15,0))
     (some (a0,20)))
    (jy (f206 a0 v3 (⟨v6.name,v6.kind,v6.count,v6.left,false⟩)) fun v17=>
    some (v17,0))))
theorem jj1 {a0:qc}{a1:ql}{r}(h:f126 a0 a1=some r):j6 pr (X pr) 126 [.agg [Iv a0.day,sl 5 zg a0.lots,sl 4 za a0.products,sl 8 vun a0.units],.agg [Iv a1.number,.str a1.kind,sl 1 yc a1.names,sl 1 yb a1.values,.str a1.text]]=some (.tup [.agg [Iv r.1.day,sl 5 zg r.1.lots,sl 4 za r.1.products,sl 8 vun r.1.units],Iv r.2],false):=by
 unfold f126 at h
 obtain⟨v1,h2,h⟩:=jw h
 obtain⟨v3,h4,h⟩:=jw h
 have wh4:=W28 h4
 rcases jx h with⟨h5,h⟩|⟨h5,h⟩
 ·obtain rfl:=oi h
  refine zk c126 ?_
  simp only[go_sem,seval,c126,jz h2,wh4,h5]
  exact⟨_,rfl⟩
 obtain⟨v6,h7,h⟩:=jw h
 rcases jx h with⟨h8,h⟩|⟨h8,h⟩
 ·rcases jx h with⟨h9,h⟩|⟨h9,h⟩
  ·obtain rfl:=oi h
   refine zk c126 ?_
   simp only[go_sem,seval,c126,jz h2,wh4,h5,jz h7,h8,h9]
   exact⟨_,rfl⟩
  rcases jx h with⟨h10,h⟩|⟨h10,h⟩
  ·obtain rfl:=oi h
   refine zk c126 ?_
   simp only[go_sem,seval,c126,jz h2,wh4,h5,jz h7,h8,h9,h10]
   exact⟨_,rfl⟩
  obtain⟨v11,h12,h⟩:=jw h
  have wh12:=q2z h12
  obtain rfl:=oi h
  refine zk c126 ?_
  simp only[go_sem,seval,c126,jz h2,wh4,h5,jz h7,h8,h9,h10,wh12]
  exact⟨_,rfl⟩
 rcases jx h with⟨h13,h⟩|⟨h13,h⟩
 ·rcases jx h with⟨h14,h⟩|⟨h14,h⟩
  ·obtain⟨v15,h16,h⟩:=jw h
   have wh16:=q2z h16
   obtain rfl:=oi h
   refine zk c126 ?_
   simp only[go_sem,seval,c126,jz h2,wh4,h5,jz h7,h8,h13,h14,wh16]
   exact⟨_,rfl⟩
  obtain rfl:=oi h
  refine zk c126 ?_
  simp only[go_sem,seval,c126,jz h2,wh4,h5,jz h7,h8,h13,h14]
  exact⟨_,rfl⟩
 obtain⟨v17,h18,h⟩:=jw h
 have wh18:=q2z h18
 obtain rfl:=oi h
 refine zk c126 ?_
 simp only[go_sem,seval,c126,jz h2,wh4,h5,jz h7,h8,h13,wh18]
 exact⟨_,rfl⟩
def f125 (a0:qc)(a1:ql):Option (qc×Int):=
 jy (zz (a1.names.getD []) 0) fun v1=>
 jy (f144 a0 v1) fun v3=>
 cond (decide (v3<0))
  (some (a0,10))
  (jy (zz (a0.products.getD []) v3) fun v6=>
  cond (decide (a1.kind=([110,101,101,100]:List UInt8)))
   (jy (zz (a1.values.getD []) 1) fun v9=>
   cond (decide (10000<v9))
    (some (a0,3))
    (jy (zz (a1.names.getD []) 1) fun v12=>
    jy (f203 v6.dn (⟨v12,v9⟩)) fun v14=>
    cond v14.2
     (cond (decide (16<((v14.1.getD []).length:Int)))
      (some (a0,5))
      (jy (f205 a0 v3 (⟨v6.name,v14.1,v6.dt,v6.docs⟩)) fun v18=>
      some (v18,0)))
     (cond (decide (16<((v14.1.getD []).length:Int)))
      (some (a0,5))
      (jy (f205 a0 v3 (⟨v6.name,v14.1,v6.dt,v6.docs⟩)) fun v21=>
      some (v21,0)))))
   (cond (decide (a1.kind=([116,101,115,116]:List UInt8)))
    (jy (zz (a1.values.getD []) 2) fun v24=>
    jy (zz (a1.values.getD []) 1) fun v26=>
    cond (decide (v24<v26))
     (some (a0,11))
     (jy (zz (a1.names.getD []) 1) fun v29=>
     jy (f204 v6.dt (⟨v29,v26,v24⟩)) fun v31=>
     cond v31.2
      (cond (decide (16<((v31.1.getD []).length:Int)))
       (some (a0,5))
       (jy (f205 a0 v3 (⟨v6.name,v6.dn,v31.1,v6.docs⟩)) fun v35=>
       some (v35,0)))
      (cond (decide (16<((v31.1.getD []).length:Int)))
       (some (a0,5))
       (jy (f205 a0 v3 (⟨v6.name,v6.dn,v31.1,v6.docs⟩)) fun v38=>
       some (v38,0)))))
    (cond (decide (((v6.dn.getD []).length:Int)=0))
     (some (a0,12))
     (cond (decide (100≤((v6.docs.getD []).length:Int)))
      (some (a0,5))
      (jy (apO (some []) (v6.docs.getD [])) fun v42=>
      jy (apO v42 [⟨v6.dn,v6.dt⟩]) fun v44=>
      jy (f205 a0 v3 (⟨v6.name,v6.dn,v6.dt,v44⟩)) fun v46=>
      some (v46,0))))))
theorem jer {a0:qc}{a1:ql}{r}(h:f125 a0 a1=some r):j6 pr (X pr) 125 [.agg [Iv a0.day,sl 5 zg a0.lots,sl 4 za a0.products,sl 8 vun a0.units],.agg [Iv a1.number,.str a1.kind,sl 1 yc a1.names,sl 1 yb a1.values,.str a1.text]]=some (.tup [.agg [Iv r.1.day,sl 5 zg r.1.lots,sl 4 za r.1.products,sl 8 vun r.1.units],Iv r.2],false):=by
 unfold f125 at h
 obtain⟨v1,h2,h⟩:=jw h
 obtain⟨v3,h4,h⟩:=jw h
 have wh4:=q2e h4
 rcases jx h with⟨h5,h⟩|⟨h5,h⟩
 ·obtain rfl:=oi h
  refine zk c125 ?_
  simp only[go_sem,seval,c125,jz h2,wh4,h5]
  exact⟨_,rfl⟩
 obtain⟨v6,h7,h⟩:=jw h
 rcases jx h with⟨h8,h⟩|⟨h8,h⟩
 ·obtain⟨v9,h10,h⟩:=jw h
  rcases jx h with⟨h11,h⟩|⟨h11,h⟩
  ·obtain rfl:=oi h
   refine zk c125 ?_
   simp only[go_sem,seval,c125,jz h2,wh4,h5,jz h7,h8,jz h10,h11]
   exact⟨_,rfl⟩
  obtain⟨v12,h13,h⟩:=jw h
  obtain⟨v14,h15,h⟩:=jw h
  have wh15:=zbf h15
  rcases jx h with⟨h16,h⟩|⟨h16,h⟩
  ·rcases jx h with⟨h17,h⟩|⟨h17,h⟩
   ·obtain rfl:=oi h
    refine zk c125 ?_
    simp only[go_sem,seval,c125,jz h2,wh4,h5,jz h7,h8,jz h10,h11,jz h13,wh15,h16,h17]
    exact⟨_,rfl⟩
   obtain⟨v18,h19,h⟩:=jw h
   have wh19:=q3e h19
   obtain rfl:=oi h
   refine zk c125 ?_
   simp only[go_sem,seval,c125,jz h2,wh4,h5,jz h7,h8,jz h10,h11,jz h13,wh15,h16,h17,wh19]
   exact⟨_,rfl⟩
  rcases jx h with⟨h20,h⟩|⟨h20,h⟩
  ·obtain rfl:=oi h
   refine zk c125 ?_
   simp only[go_sem,seval,c125,jz h2,wh4,h5,jz h7,h8,jz h10,h11,jz h13,wh15,h16,h20]
   exact⟨_,rfl⟩
  obtain⟨v21,h22,h⟩:=jw h
  have wh22:=q3e h22
  obtain rfl:=oi h
  refine zk c125 ?_
  simp only[go_sem,seval,c125,jz h2,wh4,h5,jz h7,h8,jz h10,h11,jz h13,wh15,h16,h20,wh22]
  exact⟨_,rfl⟩
 rcases jx h with⟨h23,h⟩|⟨h23,h⟩
 ·obtain⟨v24,h25,h⟩:=jw h
  obtain⟨v26,h27,h⟩:=jw h
  rcases jx h with⟨h28,h⟩|⟨h28,h⟩
  ·obtain rfl:=oi h
   refine zk c125 ?_
   simp only[go_sem,seval,c125,jz h2,wh4,h5,jz h7,h8,h23,jz h25,jz h27,h28]
   exact⟨_,rfl⟩
  obtain⟨v29,h30,h⟩:=jw h
  obtain⟨v31,h32,h⟩:=jw h
  have wh32:=j50 h32
  rcases jx h with⟨h33,h⟩|⟨h33,h⟩
  ·rcases jx h with⟨h34,h⟩|⟨h34,h⟩
   ·obtain rfl:=oi h
    refine zk c125 ?_
    simp only[go_sem,seval,c125,jz h2,wh4,h5,jz h7,h8,h23,jz h25,jz h27,h28,jz h30,wh32,h33,h34]
    exact⟨_,rfl⟩
   obtain⟨v35,h36,h⟩:=jw h
   have wh36:=q3e h36
   obtain rfl:=oi h
   refine zk c125 ?_
   simp only[go_sem,seval,c125,jz h2,wh4,h5,jz h7,h8,h23,jz h25,jz h27,h28,jz h30,wh32,h33,h34,wh36]
   exact⟨_,rfl⟩
  rcases jx h with⟨h37,h⟩|⟨h37,h⟩
  ·obtain rfl:=oi h
   refine zk c125 ?_
   simp only[go_sem,seval,c125,jz h2,wh4,h5,jz h7,h8,h23,jz h25,jz h27,h28,jz h30,wh32,h33,h37]
   exact⟨_,rfl⟩
  obtain⟨v38,h39,h⟩:=jw h
  have wh39:=q3e h39
  obtain rfl:=oi h
  refine zk c125 ?_
  simp only[go_sem,seval,c125,jz h2,wh4,h5,jz h7,h8,h23,jz h25,jz h27,h28,jz h30,wh32,h33,h37,wh39]
  exact⟨_,rfl⟩
 rcases jx h with⟨h40,h⟩|⟨h40,h⟩
 ·obtain rfl:=oi h
  refine zk c125 ?_
  simp only[go_sem,seval,c125,jz h2,wh4,h5,jz h7,h8,h23,h40]
  exact⟨_,rfl⟩
 rcases jx h with⟨h41,h⟩|⟨h41,h⟩
 ·obtain rfl:=oi h
  refine zk c125 ?_
  simp only[go_sem,seval,c125,jz h2,wh4,h5,jz h7,h8,h23,h40,h41]
  exact⟨_,rfl⟩
 obtain⟨v42,h43,h⟩:=jw h
 obtain⟨v44,h45,h⟩:=jw h
 obtain⟨v46,h47,h⟩:=jw h
 have wh47:=q3e h47
 obtain rfl:=oi h
 refine zk c125 ?_
 simp only[go_sem,seval,c125,jz h2,wh4,h5,jz h7,h8,h23,h40,h41,qa9 h43,qq4 h45,wh47]
 exact⟨_,rfl⟩
def qk0 (a0:qc)(a1:Int)(a2:ql)(v1:qe)(v5:Int)(v8:qj)(v15:qq)(s0:Bool×Int):Option ((Bool×Int)⊕((Bool×Int))):=
 cond (decide (s0.2<((v15.needs.getD []).length:Int)))
  (cond s0.1
   (some (.inl (true,j8 .i64 (s0.2+1))))
   (jy (zz (v15.needs.getD []) s0.2) fun v26=>
   some (.inl (decide (v26.k=v8.kind),j8 .i64 (s0.2+1)))))
  (some (.inr (s0.1,s0.2)))
def qls (a0:qc)(a1:Int)(a2:ql)(v1:qe)(v5:Int)(v8:qj)(v15:qq)(s0:Bool×Int):qg:=⟨[(1,Iv a1,false),(3,.vptr (.agg [Iv a0.day,sl 5 zg a0.lots,sl 4 za a0.products,sl 8 vun a0.units]),false),(5,.vptr (.agg [Iv a2.number,.str a2.kind,sl 1 yc a2.names,sl 1 yb a2.values,.str a2.text]),false),(6,.ptr 0 0,false),(8,.ptr 1 0,false),(9,Iv v5,false),(10,.ptr 2 0,false),(11,.vptr (.agg [sl 2 vsi v15.needs,sl 3 zp v15.tests]),false),(12,.bool s0.1,false),(13,Iv s0.2,false)],[.cells [(Iv 0,false),(.list true 0 [],false),(.list true 0 [],false),(.list true 0 [],false)],.cells [(.str v1.name,false),(.str v1.product,false),(Iv v1.version,false),(sl 2 vsi v1.uses,false),(sl 3 zp v1.results,false),(.str v1.partner,false),(.bool false,false),(Iv v1.complaints,false)],.cells [(.str v8.name,false),(.str v8.kind,false),(Iv v8.count,false),(Iv v8.left,false),(.bool false,false)]]⟩
def qtr (a0:qc)(a1:Int)(a2:ql)(v1:qe)(v5:Int)(v8:qj)(v15:qq)(d:(Bool×Int)):qn×qg:=(.exit 0,⟨[(1,Iv a1,false),(3,.vptr (.agg [Iv a0.day,sl 5 zg a0.lots,sl 4 za a0.products,sl 8 vun a0.units]),false),(5,.vptr (.agg [Iv a2.number,.str a2.kind,sl 1 yc a2.names,sl 1 yb a2.values,.str a2.text]),false),(6,.ptr 0 0,false),(8,.ptr 1 0,false),(9,Iv v5,false),(10,.ptr 2 0,false),(11,.vptr (.agg [sl 2 vsi v15.needs,sl 3 zp v15.tests]),false),(12,.bool d.1,false),(13,Iv d.2,false),(52,.bool false,false)],[.cells [(Iv 0,false),(.list true 0 [],false),(.list true 0 [],false),(.list true 0 [],false)],.cells [(.str v1.name,false),(.str v1.product,false),(Iv v1.version,false),(sl 2 vsi v1.uses,false),(sl 3 zp v1.results,false),(.str v1.partner,false),(.bool false,false),(Iv v1.complaints,false)],.cells [(.str v8.name,false),(.str v8.kind,false),(Iv v8.count,false),(Iv v8.left,false),(.bool false,false)]]⟩)
theorem jk3 (a0:qc)(a1:Int)(a2:ql)(v1:qe)(v5:Int)(v8:qj)(v15:qq)(s0:Bool×Int)(r)(h:qk0 a0 a1 a2 v1 v5 v8 v15 s0=some r):y6 pr qot (qls a0 a1 a2 v1 v5 v8 v15) (qtr a0 a1 a2 v1 v5 v8 v15) s0 r:=by
 unfold qk0 at h
 rcases jx h with⟨h24,h⟩|⟨h24,h⟩
 ·rcases jx h with⟨h25,h⟩|⟨h25,h⟩
  ·cases h
   exact zq (by simp only[go_sem,seval,qot,qls,h24,h25]<;>rfl)
  obtain⟨v26,h27,h⟩:=jw h
  cases h
  exact zq (by simp only[go_sem,seval,qot,qls,h24,h25,jz h27]<;>rfl)
 cases h
 exact zd (by simp only[go_sem,seval,qot,qls,h24,qtr]<;>rfl)
theorem jld (a0:qc)(a1:Int)(a2:ql)(v1:qe)(v5:Int)(v8:qj)(v15:qq){s0:Bool×Int}{d}(h:itO (qk0 a0 a1 a2 v1 v5 v8 v15) s0=some d):X pr (.loop qot) (qls a0 a1 a2 v1 v5 v8 v15 s0)=some (qtr a0 a1 a2 v1 v5 v8 v15 d):=km (jk3 a0 a1 a2 v1 v5 v8 v15) (fun d hh=>by cases hh) h
def f207 (a0:qc)(a1:Int)(a2:ql):Option (qc×Int):=
 jy (zz (a0.units.getD []) a1) fun v1=>
 jy (zz (a2.names.getD []) 1) fun v3=>
 jy (f28 a0 v3) fun v5=>
 cond (decide (v5<0))
  (some (a0,10))
  (jy (zz (a0.lots.getD []) v5) fun v8=>
  cond v1.shipped
   (some (a0,21))
   (jy (zz (a2.values.getD []) 1) fun v11=>
   cond (decide (v11=0))
    (some (a0,3))
    (cond v8.held
     (some (a0,34))
     (jy (f78 a0 (⟨v1.name,v1.product,v1.version,v1.uses,v1.results,v1.partner,false,v1.complaints⟩)) fun v15=>
     jy (itO (qk0 a0 a1 a2 v1 v5 v8 v15) (false,0)) fun d28=>
     cond d28.1
      (cond (decide (v8.left<v11))
       (some (a0,4))
       (jy (f252 v1.uses v8.name v11) fun v32=>
       cond v32.2
        (jy (f206 a0 v5 (⟨v8.name,v8.kind,v8.count,j8 .i64 (v8.left-v11),false⟩)) fun v35=>
        jy (f209 v35 a1 (⟨v1.name,v1.product,v1.version,v32.1,v1.results,v1.partner,false,v1.complaints⟩)) fun v37=>
        some (v37,0))
        (jy (f206 a0 v5 (⟨v8.name,v8.kind,v8.count,j8 .i64 (v8.left-v11),false⟩)) fun v39=>
        jy (f209 v39 a1 (⟨v1.name,v1.product,v1.version,v32.1,v1.results,v1.partner,false,v1.complaints⟩)) fun v41=>
        some (v41,0))))
      (some (a0,7))))))
theorem j3n {a0:qc}{a1:Int}{a2:ql}{r}(h:f207 a0 a1 a2=some r):j6 pr (X pr) 207 [.agg [Iv a0.day,sl 5 zg a0.lots,sl 4 za a0.products,sl 8 vun a0.units],Iv a1,.agg [Iv a2.number,.str a2.kind,sl 1 yc a2.names,sl 1 yb a2.values,.str a2.text]]=some (.tup [.agg [Iv r.1.day,sl 5 zg r.1.lots,sl 4 za r.1.products,sl 8 vun r.1.units],Iv r.2],false):=by
 unfold f207 at h
 obtain⟨v1,h2,h⟩:=jw h
 obtain⟨v3,h4,h⟩:=jw h
 obtain⟨v5,h6,h⟩:=jw h
 have wh6:=W28 h6
 rcases jx h with⟨h7,h⟩|⟨h7,h⟩
 ·obtain rfl:=oi h
  refine zk c207 ?_
  simp only[go_sem,seval,c207,jz h2,jz h4,wh6,h7]
  exact⟨_,rfl⟩
 obtain⟨v8,h9,h⟩:=jw h
 rcases jx h with⟨h10,h⟩|⟨h10,h⟩
 ·obtain rfl:=oi h
  refine zk c207 ?_
  simp only[go_sem,seval,c207,jz h2,jz h4,wh6,h7,jz h9,h10]
  exact⟨_,rfl⟩
 obtain⟨v11,h12,h⟩:=jw h
 rcases jx h with⟨h13,h⟩|⟨h13,h⟩
 ·obtain rfl:=oi h
  refine zk c207 ?_
  simp only[go_sem,seval,c207,jz h2,jz h4,wh6,h7,jz h9,h10,jz h12,h13]
  exact⟨_,rfl⟩
 rcases jx h with⟨h14,h⟩|⟨h14,h⟩
 ·obtain rfl:=oi h
  refine zk c207 ?_
  simp only[go_sem,seval,c207,jz h2,jz h4,wh6,h7,jz h9,h10,jz h12,h13,h14]
  exact⟨_,rfl⟩
 obtain⟨v15,h16,h⟩:=jw h
 have wh16:=W78 h16
 obtain⟨d28,h29,h⟩:=jw h
 have wh29:=jld a0 a1 a2 v1 v5 v8 v15 h29
 dsimp only[qls,qtr,qd8]at wh29
 rcases jx h with⟨h30,h⟩|⟨h30,h⟩
 ·rcases jx h with⟨h31,h⟩|⟨h31,h⟩
  ·obtain rfl:=oi h
   refine zk c207 ?_
   simp only[go_sem,seval,c207,jz h2,jz h4,wh6,h7,jz h9,h10,jz h12,h13,h14,wh16,wh29,h30,h31]
   exact⟨_,rfl⟩
  obtain⟨v32,h33,h⟩:=jw h
  have wh33:=j31 h33
  rcases jx h with⟨h34,h⟩|⟨h34,h⟩
  ·obtain⟨v35,h36,h⟩:=jw h
   have wh36:=q2z h36
   obtain⟨v37,h38,h⟩:=jw h
   have wh38:=qs2 h38
   obtain rfl:=oi h
   refine zk c207 ?_
   simp only[go_sem,seval,c207,jz h2,jz h4,wh6,h7,jz h9,h10,jz h12,h13,h14,wh16,wh29,h30,h31,wh33,h34,wh36,wh38]
   exact⟨_,rfl⟩
  obtain⟨v39,h40,h⟩:=jw h
  have wh40:=q2z h40
  obtain⟨v41,h42,h⟩:=jw h
  have wh42:=qs2 h42
  obtain rfl:=oi h
  refine zk c207 ?_
  simp only[go_sem,seval,c207,jz h2,jz h4,wh6,h7,jz h9,h10,jz h12,h13,h14,wh16,wh29,h30,h31,wh33,h34,wh40,wh42]
  exact⟨_,rfl⟩
 obtain rfl:=oi h
 refine zk c207 ?_
 simp only[go_sem,seval,c207,jz h2,jz h4,wh6,h7,jz h9,h10,jz h12,h13,h14,wh16,wh29,h30]
 exact⟨_,rfl⟩
def f208 (a0:qc)(a1:Int)(a2:ql):Option (qc×Int):=
 jy (zz (a0.units.getD []) a1) fun v1=>
 jy (zz (a2.names.getD []) 1) fun v3=>
 jy (f27 a0 v3) fun v5=>
 cond (decide (v5<0))
  (some (a0,10))
  (jy (zz (a0.units.getD []) v5) fun v8=>
  cond (decide (v5=a1))
   (some (a0,9))
   (cond (decide (v1.product=v8.product))
    (cond (decide (v1.version=v8.version))
     (cond v1.shipped
      (some (a0,21))
      (cond v8.shipped
       (some (a0,21))
       (cond (decide (v1.partner=[]))
        (cond (decide (v8.partner=[]))
         (jy (f209 a0 a1 (⟨v1.name,v1.product,v1.version,v1.uses,v1.results,v8.name,false,v1.complaints⟩)) fun v17=>
         jy (f209 v17 v5 (⟨v8.name,v8.product,v8.version,v8.uses,v8.results,v1.name,false,v8.complaints⟩)) fun v19=>
         some (v19,0))
         (some (a0,35)))
        (some (a0,35)))))
     (some (a0,30)))
    (some (a0,30))))
theorem j5g {a0:qc}{a1:Int}{a2:ql}{r}(h:f208 a0 a1 a2=some r):j6 pr (X pr) 208 [.agg [Iv a0.day,sl 5 zg a0.lots,sl 4 za a0.products,sl 8 vun a0.units],Iv a1,.agg [Iv a2.number,.str a2.kind,sl 1 yc a2.names,sl 1 yb a2.values,.str a2.text]]=some (.tup [.agg [Iv r.1.day,sl 5 zg r.1.lots,sl 4 za r.1.products,sl 8 vun r.1.units],Iv r.2],false):=by
 unfold f208 at h
 obtain⟨v1,h2,h⟩:=jw h
 obtain⟨v3,h4,h⟩:=jw h
 obtain⟨v5,h6,h⟩:=jw h
 have wh6:=W27 h6
 rcases jx h with⟨h7,h⟩|⟨h7,h⟩
 ·obtain rfl:=oi h
  refine zk c208 ?_
  simp only[go_sem,seval,c208,jz h2,jz h4,wh6,h7]
  exact⟨_,rfl⟩
 obtain⟨v8,h9,h⟩:=jw h
 rcases jx h with⟨h10,h⟩|⟨h10,h⟩
 ·obtain rfl:=oi h
  refine zk c208 ?_
  simp only[go_sem,seval,c208,jz h2,jz h4,wh6,h7,jz h9,h10]
  exact⟨_,rfl⟩
 rcases jx h with⟨h11,h⟩|⟨h11,h⟩
 ·rcases jx h with⟨h12,h⟩|⟨h12,h⟩
  ·rcases jx h with⟨h13,h⟩|⟨h13,h⟩
   ·obtain rfl:=oi h
    refine zk c208 ?_
    simp only[go_sem,seval,c208,jz h2,jz h4,wh6,h7,jz h9,h10,h11,h12,h13]
    exact⟨_,rfl⟩
   rcases jx h with⟨h14,h⟩|⟨h14,h⟩
   ·obtain rfl:=oi h
    refine zk c208 ?_
    simp only[go_sem,seval,c208,jz h2,jz h4,wh6,h7,jz h9,h10,h11,h12,h13,h14]
    exact⟨_,rfl⟩
   rcases jx h with⟨h15,h⟩|⟨h15,h⟩
   ·rcases jx h with⟨h16,h⟩|⟨h16,h⟩
    ·obtain⟨v17,h18,h⟩:=jw h
     have wh18:=qs2 h18
     obtain⟨v19,h20,h⟩:=jw h
     have wh20:=qs2 h20
     obtain rfl:=oi h
     refine zk c208 ?_
     simp only[go_sem,seval,c208,jz h2,jz h4,wh6,h7,jz h9,h10,h11,h12,h13,h14,h15,h16,wh18,wh20]
     exact⟨_,rfl⟩
    obtain rfl:=oi h
    refine zk c208 ?_
    simp only[go_sem,seval,c208,jz h2,jz h4,wh6,h7,jz h9,h10,h11,h12,h13,h14,h15,h16]
    exact⟨_,rfl⟩
   obtain rfl:=oi h
   refine zk c208 ?_
   simp only[go_sem,seval,c208,jz h2,jz h4,wh6,h7,jz h9,h10,h11,h12,h13,h14,h15]
   exact⟨_,rfl⟩
  obtain rfl:=oi h
  refine zk c208 ?_
  simp only[go_sem,seval,c208,jz h2,jz h4,wh6,h7,jz h9,h10,h11,h12]
  exact⟨_,rfl⟩
 obtain rfl:=oi h
 refine zk c208 ?_
 simp only[go_sem,seval,c208,jz h2,jz h4,wh6,h7,jz h9,h10,h11]
 exact⟨_,rfl⟩
def qko (a0:qc)(a1:ql)(v3:Int)(v6:qe)(v16:qq)(s0:Bool×Int):Option ((Bool×Int)⊕((Bool×Int))):=
 cond (decide (s0.2<((v16.tests.getD []).length:Int)))
  (cond s0.1
   (some (.inl (true,j8 .i64 (s0.2+1))))
   (jy (zz (v16.tests.getD []) s0.2) fun v31=>
   jy (zz (a1.names.getD []) 1) fun v33=>
   some (.inl (decide (v31.k=v33),j8 .i64 (s0.2+1)))))
  (some (.inr (s0.1,s0.2)))
def qlp (a0:qc)(a1:ql)(v3:Int)(v6:qe)(v16:qq)(s0:Bool×Int):qg:=⟨[(2,.vptr (.agg [Iv a0.day,sl 5 zg a0.lots,sl 4 za a0.products,sl 8 vun a0.units]),false),(3,.vptr (.agg [Iv a1.number,.str a1.kind,sl 1 yc a1.names,sl 1 yb a1.values,.str a1.text]),false),(4,.ptr 0 0,false),(6,Iv v3,false),(7,.ptr 1 0,false),(8,.vptr (.agg [sl 2 vsi v16.needs,sl 3 zp v16.tests]),false),(9,.bool s0.1,false),(10,Iv s0.2,false)],[.cells [(Iv 0,false),(.list true 0 [],false),(.list true 0 [],false),(.list true 0 [],false)],.cells [(.str v6.name,false),(.str v6.product,false),(Iv v6.version,false),(sl 2 vsi v6.uses,false),(sl 3 zp v6.results,false),(.str v6.partner,false),(.bool false,false),(Iv v6.complaints,false)]]⟩
def que (a0:qc)(a1:ql)(v3:Int)(v6:qe)(v16:qq)(d:(Bool×Int)):qn×qg:=(.exit 1,⟨[(2,.vptr (.agg [Iv a0.day,sl 5 zg a0.lots,sl 4 za a0.products,sl 8 vun a0.units]),false),(3,.vptr (.agg [Iv a1.number,.str a1.kind,sl 1 yc a1.names,sl 1 yb a1.values,.str a1.text]),false),(4,.ptr 0 0,false),(6,Iv v3,false),(7,.ptr 1 0,false),(8,.vptr (.agg [sl 2 vsi v16.needs,sl 3 zp v16.tests]),false),(9,.bool d.1,false),(10,Iv d.2,false),(64,.bool false,false)],[.cells [(Iv 0,false),(.list true 0 [],false),(.list true 0 [],false),(.list true 0 [],false)],.cells [(.str v6.name,false),(.str v6.product,false),(Iv v6.version,false),(sl 2 vsi v6.uses,false),(sl 3 zp v6.results,false),(.str v6.partner,false),(.bool false,false),(Iv v6.complaints,false)]]⟩)
theorem jm4 (a0:qc)(a1:ql)(v3:Int)(v6:qe)(v16:qq)(s0:Bool×Int)(r)(h:qko a0 a1 v3 v6 v16 s0=some r):y6 pr qoo (qlp a0 a1 v3 v6 v16) (que a0 a1 v3 v6 v16) s0 r:=by
 unfold qko at h
 rcases jx h with⟨h29,h⟩|⟨h29,h⟩
 ·rcases jx h with⟨h30,h⟩|⟨h30,h⟩
  ·cases h
   exact zq (by simp only[go_sem,seval,qoo,qlp,h29,h30]<;>rfl)
  obtain⟨v31,h32,h⟩:=jw h
  obtain⟨v33,h34,h⟩:=jw h
  cases h
  exact zq (by simp only[go_sem,seval,qoo,qlp,h29,h30,jz h32,jz h34]<;>rfl)
 cases h
 exact zd (by simp only[go_sem,seval,qoo,qlp,h29,que]<;>rfl)
theorem joa (a0:qc)(a1:ql)(v3:Int)(v6:qe)(v16:qq){s0:Bool×Int}{d}(h:itO (qko a0 a1 v3 v6 v16) s0=some d):X pr (.loop qoo) (qlp a0 a1 v3 v6 v16 s0)=some (que a0 a1 v3 v6 v16 d):=km (jm4 a0 a1 v3 v6 v16) (fun d hh=>by cases hh) h
def f127 (a0:qc)(a1:ql):Option (qc×Int):=
 jy (zz (a1.names.getD []) 0) fun v1=>
 jy (f27 a0 v1) fun v3=>
 cond (decide (v3<0))
  (some (a0,10))
  (jy (zz (a0.units.getD []) v3) fun v6=>
  cond (decide (a1.kind=([117,115,101]:List UInt8)))
   (jy (f207 a0 v3 a1) fun v9=>
   some (v9.1,v9.2))
   (cond (decide (a1.kind=([112,97,105,114]:List UInt8)))
    (jy (f208 a0 v3 a1) fun v12=>
    some (v12.1,v12.2))
    (cond (decide (a1.kind=([109,101,97,115,117,114,101]:List UInt8)))
     (cond v6.shipped
      (some (a0,21))
      (jy (f78 a0 (⟨v6.name,v6.product,v6.version,v6.uses,v6.results,v6.partner,false,v6.complaints⟩)) fun v16=>
      jy (itO (qko a0 a1 v3 v6 v16) (false,0)) fun d35=>
      cond d35.1
       (cond (decide (64≤((v6.results.getD []).length:Int)))
        (some (a0,5))
        (jy (apO (some []) (v6.results.getD [])) fun v39=>
        jy (zz (a1.names.getD []) 1) fun v41=>
        jy (zz (a1.values.getD []) 1) fun v43=>
        jy (apO v39 [⟨v41,v6.version,v43⟩]) fun v45=>
        jy (f209 a0 v3 (⟨v6.name,v6.product,v6.version,v6.uses,v45,v6.partner,false,v6.complaints⟩)) fun v47=>
        some (v47,0)))
       (some (a0,7))))
     (cond (decide (a1.kind=([117,112,100,97,116,101]:List UInt8)))
      (cond v6.shipped
       (some (a0,21))
       (jy (f80 a0 (⟨v6.name,v6.product,v6.version,v6.uses,v6.results,v6.partner,false,v6.complaints⟩)) fun v51=>
       cond (decide (v6.version=v51))
        (some (a0,32))
        (jy (f209 a0 v3 (⟨v6.name,v6.product,v51,v6.uses,v6.results,v6.partner,false,v6.complaints⟩)) fun v54=>
        some (v54,0))))
      (cond (decide (a1.kind=([115,104,105,112]:List UInt8)))
       (jy (f31 a0 v6) fun v57=>
       cond (decide (v57=0))
        (jy (f209 a0 v3 (⟨v6.name,v6.product,v6.version,v6.uses,v6.results,v6.partner,true,v6.complaints⟩)) fun v60=>
        some (v60,0))
        (some (a0,v57)))
       (cond v6.shipped
        (jy (f209 a0 v3 (⟨v6.name,v6.product,v6.version,v6.uses,v6.results,v6.partner,true,j8 .i64 (v6.complaints+1)⟩)) fun v63=>
        some (v63,0))
        (some (a0,20))))))))
theorem j6i {a0:qc}{a1:ql}{r}(h:f127 a0 a1=some r):j6 pr (X pr) 127 [.agg [Iv a0.day,sl 5 zg a0.lots,sl 4 za a0.products,sl 8 vun a0.units],.agg [Iv a1.number,.str a1.kind,sl 1 yc a1.names,sl 1 yb a1.values,.str a1.text]]=some (.tup [.agg [Iv r.1.day,sl 5 zg r.1.lots,sl 4 za r.1.products,sl 8 vun r.1.units],Iv r.2],false):=by
 unfold f127 at h
 obtain⟨v1,h2,h⟩:=jw h
 obtain⟨v3,h4,h⟩:=jw h
 have wh4:=W27 h4
 rcases jx h with⟨h5,h⟩|⟨h5,h⟩
 ·obtain rfl:=oi h
  refine zk c127 ?_
  simp only[go_sem,seval,c127,jz h2,wh4,h5]
  exact⟨_,rfl⟩
 obtain⟨v6,h7,h⟩:=jw h
 rcases jx h with⟨h8,h⟩|⟨h8,h⟩
 ·obtain⟨v9,h10,h⟩:=jw h
  have wh10:=j3n h10
  obtain rfl:=oi h
  refine zk c127 ?_
  simp only[go_sem,seval,c127,jz h2,wh4,h5,jz h7,h8,wh10]
  exact⟨_,rfl⟩
 rcases jx h with⟨h11,h⟩|⟨h11,h⟩
 ·obtain⟨v12,h13,h⟩:=jw h
  have wh13:=j5g h13
  obtain rfl:=oi h
  refine zk c127 ?_
  simp only[go_sem,seval,c127,jz h2,wh4,h5,jz h7,h8,h11,wh13]
  exact⟨_,rfl⟩
 rcases jx h with⟨h14,h⟩|⟨h14,h⟩
 ·rcases jx h with⟨h15,h⟩|⟨h15,h⟩
  ·obtain rfl:=oi h
   refine zk c127 ?_
   simp only[go_sem,seval,c127,jz h2,wh4,h5,jz h7,h8,h11,h14,h15]
   exact⟨_,rfl⟩
  obtain⟨v16,h17,h⟩:=jw h
  have wh17:=W78 h17
  obtain⟨d35,h36,h⟩:=jw h
  have wh36:=joa a0 a1 v3 v6 v16 h36
  dsimp only[qlp,que,qd8]at wh36
  rcases jx h with⟨h37,h⟩|⟨h37,h⟩
  ·rcases jx h with⟨h38,h⟩|⟨h38,h⟩
   ·obtain rfl:=oi h
    refine zk c127 ?_
    simp only[go_sem,seval,c127,jz h2,wh4,h5,jz h7,h8,h11,h14,h15,wh17,wh36,h37,h38]
    exact⟨_,rfl⟩
   obtain⟨v39,h40,h⟩:=jw h
   obtain⟨v41,h42,h⟩:=jw h
   obtain⟨v43,h44,h⟩:=jw h
   obtain⟨v45,h46,h⟩:=jw h
   obtain⟨v47,h48,h⟩:=jw h
   have wh48:=qs2 h48
   obtain rfl:=oi h
   refine zk c127 ?_
   simp only[go_sem,seval,c127,jz h2,wh4,h5,jz h7,h8,h11,h14,h15,wh17,wh36,h37,h38,qa9 h40,jz h42,jz h44,qdv h46,wh48]
   exact⟨_,rfl⟩
  obtain rfl:=oi h
  refine zk c127 ?_
  simp only[go_sem,seval,c127,jz h2,wh4,h5,jz h7,h8,h11,h14,h15,wh17,wh36,h37]
  exact⟨_,rfl⟩
 rcases jx h with⟨h49,h⟩|⟨h49,h⟩
 ·rcases jx h with⟨h50,h⟩|⟨h50,h⟩
  ·obtain rfl:=oi h
   refine zk c127 ?_
   simp only[go_sem,seval,c127,jz h2,wh4,h5,jz h7,h8,h11,h14,h49,h50]
   exact⟨_,rfl⟩
  obtain⟨v51,h52,h⟩:=jw h
  have wh52:=W80 h52
  rcases jx h with⟨h53,h⟩|⟨h53,h⟩
  ·obtain rfl:=oi h
   refine zk c127 ?_
   simp only[go_sem,seval,c127,jz h2,wh4,h5,jz h7,h8,h11,h14,h49,h50,wh52,h53]
   exact⟨_,rfl⟩
  obtain⟨v54,h55,h⟩:=jw h
  have wh55:=qs2 h55
  obtain rfl:=oi h
  refine zk c127 ?_
  simp only[go_sem,seval,c127,jz h2,wh4,h5,jz h7,h8,h11,h14,h49,h50,wh52,h53,wh55]
  exact⟨_,rfl⟩
 rcases jx h with⟨h56,h⟩|⟨h56,h⟩
 ·obtain⟨v57,h58,h⟩:=jw h
  have wh58:=W31 h58
  rcases jx h with⟨h59,h⟩|⟨h59,h⟩
  ·obtain⟨v60,h61,h⟩:=jw h
   have wh61:=qs2 h61
   obtain rfl:=oi h
   refine zk c127 ?_
   simp only[go_sem,seval,c127,jz h2,wh4,h5,jz h7,h8,h11,h14,h49,h56,wh58,h59,wh61]
   exact⟨_,rfl⟩
  obtain rfl:=oi h
  refine zk c127 ?_
  simp only[go_sem,seval,c127,jz h2,wh4,h5,jz h7,h8,h11,h14,h49,h56,wh58,h59]
  exact⟨_,rfl⟩
 rcases jx h with⟨h62,h⟩|⟨h62,h⟩
 ·obtain⟨v63,h64,h⟩:=jw h
  have wh64:=qs2 h64
  obtain rfl:=oi h
  refine zk c127 ?_
  simp only[go_sem,seval,c127,jz h2,wh4,h5,jz h7,h8,h11,h14,h49,h56,h62,wh64]
  exact⟨_,rfl⟩
 obtain rfl:=oi h
 refine zk c127 ?_
 simp only[go_sem,seval,c127,jz h2,wh4,h5,jz h7,h8,h11,h14,h49,h56,h62]
 exact⟨_,rfl⟩
def f69 (a0:qc)(a1:ql):Option (qc×Int):=
 jy (zz (a1.values.getD []) 0) fun v1=>
 cond (decide (v1<a0.day))
  (some (a0,20))
  (cond (decide (a1.kind=([108,111,116]:List UInt8)))
   (jy (f124 a0 a1) fun v5=>
   some (⟨v1,v5.1.lots,v5.1.products,v5.1.units⟩,v5.2))
   (cond (decide (a1.kind=([112,114,111,100,117,99,116]:List UInt8)))
    (jy (f124 a0 a1) fun v8=>
    some (⟨v1,v8.1.lots,v8.1.products,v8.1.units⟩,v8.2))
    (cond (decide (a1.kind=([98,117,105,108,100]:List UInt8)))
     (jy (f124 a0 a1) fun v11=>
     some (⟨v1,v11.1.lots,v11.1.products,v11.1.units⟩,v11.2))
     (cond (decide (a1.kind=([110,101,101,100]:List UInt8)))
      (jy (f125 a0 a1) fun v14=>
      some (⟨v1,v14.1.lots,v14.1.products,v14.1.units⟩,v14.2))
      (cond (decide (a1.kind=([116,101,115,116]:List UInt8)))
       (jy (f125 a0 a1) fun v17=>
       some (⟨v1,v17.1.lots,v17.1.products,v17.1.units⟩,v17.2))
       (cond (decide (a1.kind=([105,115,115,117,101]:List UInt8)))
        (jy (f125 a0 a1) fun v20=>
        some (⟨v1,v20.1.lots,v20.1.products,v20.1.units⟩,v20.2))
        (cond (decide (a1.kind=([104,111,108,100]:List UInt8)))
         (jy (f126 a0 a1) fun v23=>
         some (⟨v1,v23.1.lots,v23.1.products,v23.1.units⟩,v23.2))
         (cond (decide (a1.kind=([102,114,101,101]:List UInt8)))
          (jy (f126 a0 a1) fun v26=>
          some (⟨v1,v26.1.lots,v26.1.products,v26.1.units⟩,v26.2))
          (jy (f127 a0 a1) fun v28=>
          some (⟨v1,v28.1.lots,v28.1.products,v28.1.units⟩,v28.2))))))))))
theorem W69 {a0:qc}{a1:ql}{r}(h:f69 a0 a1=some r):j6 pr (X pr) 69 [.agg [Iv a0.day,sl 5 zg a0.lots,sl 4 za a0.products,sl 8 vun a0.units],.agg [Iv a1.number,.str a1.kind,sl 1 yc a1.names,sl 1 yb a1.values,.str a1.text]]=some (.tup [.agg [Iv r.1.day,sl 5 zg r.1.lots,sl 4 za r.1.products,sl 8 vun r.1.units],Iv r.2],false):=by
 unfold f69 at h
 obtain⟨v1,h2,h⟩:=jw h
 rcases jx h with⟨h3,h⟩|⟨h3,h⟩
 ·obtain rfl:=oi h
  refine zk c69 ?_
  simp only[go_sem,seval,c69,jz h2,h3]
  exact⟨_,rfl⟩
 rcases jx h with⟨h4,h⟩|⟨h4,h⟩
 ·obtain⟨v5,h6,h⟩:=jw h
  have wh6:=jeg h6
  obtain rfl:=oi h
  refine zk c69 ?_
  simp only[go_sem,seval,c69,jz h2,h3,h4,wh6]
  exact⟨_,rfl⟩
 rcases jx h with⟨h7,h⟩|⟨h7,h⟩
 ·obtain⟨v8,h9,h⟩:=jw h
  have wh9:=jeg h9
  obtain rfl:=oi h
  refine zk c69 ?_
  simp only[go_sem,seval,c69,jz h2,h3,h4,h7,wh9]
  exact⟨_,rfl⟩
 rcases jx h with⟨h10,h⟩|⟨h10,h⟩
 ·obtain⟨v11,h12,h⟩:=jw h
  have wh12:=jeg h12
  obtain rfl:=oi h
  refine zk c69 ?_
  simp only[go_sem,seval,c69,jz h2,h3,h4,h7,h10,wh12]
  exact⟨_,rfl⟩
 rcases jx h with⟨h13,h⟩|⟨h13,h⟩
 ·obtain⟨v14,h15,h⟩:=jw h
  have wh15:=jer h15
  obtain rfl:=oi h
  refine zk c69 ?_
  simp only[go_sem,seval,c69,jz h2,h3,h4,h7,h10,h13,wh15]
  exact⟨_,rfl⟩
 rcases jx h with⟨h16,h⟩|⟨h16,h⟩
 ·obtain⟨v17,h18,h⟩:=jw h
  have wh18:=jer h18
  obtain rfl:=oi h
  refine zk c69 ?_
  simp only[go_sem,seval,c69,jz h2,h3,h4,h7,h10,h13,h16,wh18]
  exact⟨_,rfl⟩
 rcases jx h with⟨h19,h⟩|⟨h19,h⟩
 ·obtain⟨v20,h21,h⟩:=jw h
  have wh21:=jer h21
  obtain rfl:=oi h
  refine zk c69 ?_
  simp only[go_sem,seval,c69,jz h2,h3,h4,h7,h10,h13,h16,h19,wh21]
  exact⟨_,rfl⟩
 rcases jx h with⟨h22,h⟩|⟨h22,h⟩
 ·obtain⟨v23,h24,h⟩:=jw h
  have wh24:=jj1 h24
  obtain rfl:=oi h
  refine zk c69 ?_
  simp only[go_sem,seval,c69,jz h2,h3,h4,h7,h10,h13,h16,h19,h22,wh24]
  exact⟨_,rfl⟩
 rcases jx h with⟨h25,h⟩|⟨h25,h⟩
 ·obtain⟨v26,h27,h⟩:=jw h
  have wh27:=jj1 h27
  obtain rfl:=oi h
  refine zk c69 ?_
  simp only[go_sem,seval,c69,jz h2,h3,h4,h7,h10,h13,h16,h19,h22,h25,wh27]
  exact⟨_,rfl⟩
 obtain⟨v28,h29,h⟩:=jw h
 have wh29:=j6i h29
 obtain rfl:=oi h
 refine zk c69 ?_
 simp only[go_sem,seval,c69,jz h2,h3,h4,h7,h10,h13,h16,h19,h22,h25,wh29]
 exact⟨_,rfl⟩
end Go.Z
end
