/- Chapter 10. -/
import Derived.Test.YtfopaakmgogpiaaGreatDoorV3
import Derived.Test.YtfopaakmgogpiaaGreatDoorAbsL
set_option linter.unusedVariables false
set_option linter.unusedSimpArgs false
set_option maxRecDepth 100000
set_option maxHeartbeats 4000000
noncomputable section
namespace Go.Z
open Go Go.Abs Go.W
def qqp (a1:List UInt8)(a2c0:Int)(a2c1vc0:List UInt8)(a2c2:List UInt8)(c0_0:Int)(c0_1:Option (List qj))(c0_2:Option (List qk))(c0_3:Option (List qe)):Option (Option (List qk)):=
 jy (f165 (⟨c0_0,c0_1,c0_2,c0_3⟩) a1) fun v1=>
 jy (jfn c0_2 v1 a2c0 a2c1vc0 a2c2) fun v3=>
 some v3
theorem q8h {a1:List UInt8}{a2c0:Int}{a2c1vc0:List UInt8}{a2c2:List UInt8}{c0_0:Int}{c0_1:Option (List qj)}{c0_2:Option (List qk)}{c0_3:Option (List qe)}{x1:qr}{x2:qr}{x3:qr}{r}(h:qqp a1 a2c0 a2c1vc0 a2c2 c0_0 c0_1 c0_2 c0_3=some r):zj pr (X pr) 169 [.ptr 0 0,.str a1,.fn (.func 170) [] [.vptr (Iv a2c0),.vptr (.fn (.func 167) [] [.vptr (.str a2c1vc0)]),.vptr (.str a2c2)]] [.cells [(Iv c0_0,false),(sl 5 zg c0_1,false),(sl 4 za c0_2,false),(sl 8 vun c0_3,false)],x1,x2,x3]=some (.tup [],false,[.cells [(Iv c0_0,false),(sl 5 zg c0_1,false),(sl 4 za r,false),(sl 8 vun c0_3,false)],x1,x2,x3]):=by
 unfold qqp at h
 obtain⟨v1,h2,h⟩:=jw h
 have wh2:=qn4 h2
 obtain⟨v3,h4,h⟩:=jw h
 have wh4:j6 pr (X pr) 178 [sl 4 za c0_2,Iv v1,.fn (.func 236) [] [.vptr (.fn (.func 170) [] [.vptr (Iv a2c0),.vptr (.fn (.func 167) [] [.vptr (.str a2c1vc0)]),.vptr (.str a2c2)])]]=some (sl 4 za v3,false):=jee h4
 have hr:v3=r:=Option.some.inj h
 subst hr
 rw[zc (show pr.fns 169=some c169 from rfl) (by simp)]
 simp only[go_sem,seval,c169,wh2,wh4]<;>rfl
def qtc (a1:List UInt8)(a2c0:qi)(a2c1vc0:qi)(c0_0:Int)(c0_1:Option (List qj))(c0_2:Option (List qk))(c0_3:Option (List qe)):Option (Option (List qk)):=
 jy (f165 (⟨c0_0,c0_1,c0_2,c0_3⟩) a1) fun v1=>
 jy (jcl c0_2 v1 a2c0 a2c1vc0) fun v3=>
 some v3
theorem jgn {a1:List UInt8}{a2c0:qi}{a2c1vc0:qi}{c0_0:Int}{c0_1:Option (List qj)}{c0_2:Option (List qk)}{c0_3:Option (List qe)}{x1:qr}{x2:qr}{x3:qr}{r}(h:qtc a1 a2c0 a2c1vc0 c0_0 c0_1 c0_2 c0_3=some r):zj pr (X pr) 169 [.ptr 0 0,.str a1,.fn (.func 176) [] [.vptr (.agg [.str a2c0.k,Iv a2c0.a,Iv a2c0.b]),.vptr (.fn (.func 174) [] [.vptr (.agg [.str a2c1vc0.k,Iv a2c1vc0.a,Iv a2c1vc0.b])])]] [.cells [(Iv c0_0,false),(sl 5 zg c0_1,false),(sl 4 za c0_2,false),(sl 8 vun c0_3,false)],x1,x2,x3]=some (.tup [],false,[.cells [(Iv c0_0,false),(sl 5 zg c0_1,false),(sl 4 za r,false),(sl 8 vun c0_3,false)],x1,x2,x3]):=by
 unfold qtc at h
 obtain⟨v1,h2,h⟩:=jw h
 have wh2:=qn4 h2
 obtain⟨v3,h4,h⟩:=jw h
 have wh4:j6 pr (X pr) 178 [sl 4 za c0_2,Iv v1,.fn (.func 236) [] [.vptr (.fn (.func 176) [] [.vptr (.agg [.str a2c0.k,Iv a2c0.a,Iv a2c0.b]),.vptr (.fn (.func 174) [] [.vptr (.agg [.str a2c1vc0.k,Iv a2c1vc0.a,Iv a2c1vc0.b])])])]]=some (sl 4 za v3,false):=jdp h4
 have hr:v3=r:=Option.some.inj h
 subst hr
 rw[zc (show pr.fns 169=some c169 from rfl) (by simp)]
 simp only[go_sem,seval,c169,wh2,wh4]<;>rfl
def f105 (a1:ql)(c0_0:Int)(c0_1:Option (List qj))(c0_2:Option (List qk))(c0_3:Option (List qe)):Option (Int×(Option (List qj))×Bool):=
 jy (zz (a1.names.getD []) 0) fun v1=>
 jy (f72 (⟨c0_0,c0_1,c0_2,c0_3⟩) v1) fun v3=>
 jy (f53 (decide (0≤v3)) 9) fun v5=>
 jy (zz (a1.values.getD []) 1) fun v7=>
 jy (f52 v7 1 10000) fun v9=>
 jy (f53 (decide (64≤((c0_1.getD []).length:Int))) 5) fun v11=>
 jy (f51 (some [v5,v9,v11])) fun v13=>
 cond (decide (v13=0))
  (jy (zz (a1.names.getD []) 1) fun v16=>
  jy (f164 c0_1 (⟨v1,v16,v7,v7,false⟩)) fun v18=>
  some (0,v18,true))
  (some (v13,c0_1,false))
theorem j7t {a1:ql}{c0_0:Int}{c0_1:Option (List qj)}{c0_2:Option (List qk)}{c0_3:Option (List qe)}{x1:qr}{x2:qr}{x3:qr}{r}(h:f105 a1 c0_0 c0_1 c0_2 c0_3=some r):zj pr (X pr) 105 [.ptr 0 0,.agg [Iv a1.number,.str a1.kind,sl 1 yc a1.names,sl 1 yb a1.values,.str a1.text]] [.cells [(Iv c0_0,false),(sl 5 zg c0_1,false),(sl 4 za c0_2,false),(sl 8 vun c0_3,false)],x1,x2,x3]=some (Iv r.1,false,[.cells [(Iv c0_0,false),(sl 5 zg r.2.1,r.2.2),(sl 4 za c0_2,false),(sl 8 vun c0_3,false)],x1,x2,x3]):=by
 unfold f105 at h
 obtain⟨v1,h2,h⟩:=jw h
 obtain⟨v3,h4,h⟩:=jw h
 have wh4:=W72 h4
 obtain⟨v5,h6,h⟩:=jw h
 have wh6:=W53 h6
 obtain⟨v7,h8,h⟩:=jw h
 obtain⟨v9,h10,h⟩:=jw h
 obtain⟨v11,h12,h⟩:=jw h
 have wh12:=W53 h12
 obtain⟨v13,h14,h⟩:=jw h
 have wh14:j6 pr (X pr) 51 [.list false 1 [Iv v5,Iv v9,Iv v11]]=some (Iv v13,false):=W51 h14
 rcases jx h with⟨h15,h⟩|⟨h15,h⟩
 ·obtain⟨v16,h17,h⟩:=jw h
  obtain⟨v18,h19,h⟩:=jw h
  have wh19:=j5z h19
  have hr:(0,v18,true)=r:=Option.some.inj h
  subst hr
  rw[zc (show pr.fns 105=some c105 from rfl) (by simp)]
  simp only[go_sem,seval,c105,jz h2,wh4,wh6,jz h8,W52 h10,wh12,wh14,h15,jz h17,wh19]<;>rfl
 have hr:(v13,c0_1,false)=r:=Option.some.inj h
 subst hr
 rw[zc (show pr.fns 105=some c105 from rfl) (by simp)]
 simp only[go_sem,seval,c105,jz h2,wh4,wh6,jz h8,W52 h10,wh12,wh14,h15]<;>rfl
def f106 (a1:ql)(c0_0:Int)(c0_1:Option (List qj))(c0_2:Option (List qk))(c0_3:Option (List qe)):Option (Int×(Option (List qk))×Bool):=
 jy (zz (a1.names.getD []) 0) fun v1=>
 jy (f165 (⟨c0_0,c0_1,c0_2,c0_3⟩) v1) fun v3=>
 jy (f53 (decide (0≤v3)) 9) fun v5=>
 jy (f53 (decide (16≤((c0_2.getD []).length:Int))) 5) fun v7=>
 jy (f51 (some [v5,v7])) fun v9=>
 cond (decide (v9=0))
  (jy (f166 c0_2 (⟨v1,none,none,none⟩)) fun v12=>
  some (0,v12,true))
  (some (v9,c0_2,false))
theorem j6r {a1:ql}{c0_0:Int}{c0_1:Option (List qj)}{c0_2:Option (List qk)}{c0_3:Option (List qe)}{x1:qr}{x2:qr}{x3:qr}{r}(h:f106 a1 c0_0 c0_1 c0_2 c0_3=some r):zj pr (X pr) 106 [.ptr 0 0,.agg [Iv a1.number,.str a1.kind,sl 1 yc a1.names,sl 1 yb a1.values,.str a1.text]] [.cells [(Iv c0_0,false),(sl 5 zg c0_1,false),(sl 4 za c0_2,false),(sl 8 vun c0_3,false)],x1,x2,x3]=some (Iv r.1,false,[.cells [(Iv c0_0,false),(sl 5 zg c0_1,false),(sl 4 za r.2.1,r.2.2),(sl 8 vun c0_3,false)],x1,x2,x3]):=by
 unfold f106 at h
 obtain⟨v1,h2,h⟩:=jw h
 obtain⟨v3,h4,h⟩:=jw h
 have wh4:=qn4 h4
 obtain⟨v5,h6,h⟩:=jw h
 have wh6:=W53 h6
 obtain⟨v7,h8,h⟩:=jw h
 have wh8:=W53 h8
 obtain⟨v9,h10,h⟩:=jw h
 have wh10:j6 pr (X pr) 51 [.list false 1 [Iv v5,Iv v7]]=some (Iv v9,false):=W51 h10
 rcases jx h with⟨h11,h⟩|⟨h11,h⟩
 ·obtain⟨v12,h13,h⟩:=jw h
  have wh13:j6 pr (X pr) 166 [sl 4 za c0_2,.agg [.str v1,.list true 0 [],.list true 0 [],.list true 0 []]]=some (sl 4 za v12,true):=j93 h13
  have hr:(0,v12,true)=r:=Option.some.inj h
  subst hr
  rw[zc (show pr.fns 106=some c106 from rfl) (by simp)]
  simp only[go_sem,seval,c106,jz h2,wh4,wh6,wh8,wh10,h11,wh13]<;>rfl
 have hr:(v9,c0_2,false)=r:=Option.some.inj h
 subst hr
 rw[zc (show pr.fns 106=some c106 from rfl) (by simp)]
 simp only[go_sem,seval,c106,jz h2,wh4,wh6,wh8,wh10,h11]<;>rfl
def f107 (a1:ql)(c0_0:Int)(c0_1:Option (List qj))(c0_2:Option (List qk))(c0_3:Option (List qe)):Option (Int×(Option (List qk))):=
 jy (zz (a1.names.getD []) 1) fun v1=>
 jy (zz (a1.values.getD []) 1) fun v3=>
 jy (zz (a1.names.getD []) 0) fun v5=>
 jy (f165 (⟨c0_0,c0_1,c0_2,c0_3⟩) v5) fun v7=>
 jy (zz (c0_2.getD []) v7) fun v9=>
 jy (f52 v3 0 10000) fun v11=>
 cond (decide (0<v3))
  (jy (qxt v9.dn v1) fun v14=>
  cond v14
   (jy (f53 false 5) fun v17=>
   jy (f51 (some [v11,v17])) fun v19=>
   cond (decide (v19=0))
    (jy (qqp v5 v3 v1 v1 c0_0 c0_1 c0_2 c0_3) fun v22=>
    some (0,v22))
    (some (v19,c0_2)))
   (jy (f53 (decide (16≤((v9.dn.getD []).length:Int))) 5) fun v24=>
   jy (f51 (some [v11,v24])) fun v26=>
   cond (decide (v26=0))
    (jy (qqp v5 v3 v1 v1 c0_0 c0_1 c0_2 c0_3) fun v29=>
    some (0,v29))
    (some (v26,c0_2))))
  (jy (f53 false 5) fun v31=>
  jy (f51 (some [v11,v31])) fun v33=>
  cond (decide (v33=0))
   (jy (qqp v5 v3 v1 v1 c0_0 c0_1 c0_2 c0_3) fun v36=>
   some (0,v36))
   (some (v33,c0_2)))
theorem j2w {a1:ql}{c0_0:Int}{c0_1:Option (List qj)}{c0_2:Option (List qk)}{c0_3:Option (List qe)}{x1:qr}{x2:qr}{x3:qr}{r}(h:f107 a1 c0_0 c0_1 c0_2 c0_3=some r):zj pr (X pr) 107 [.ptr 0 0,.agg [Iv a1.number,.str a1.kind,sl 1 yc a1.names,sl 1 yb a1.values,.str a1.text]] [.cells [(Iv c0_0,false),(sl 5 zg c0_1,false),(sl 4 za c0_2,false),(sl 8 vun c0_3,false)],x1,x2,x3]=some (Iv r.1,false,[.cells [(Iv c0_0,false),(sl 5 zg c0_1,false),(sl 4 za r.2,false),(sl 8 vun c0_3,false)],x1,x2,x3]):=by
 unfold f107 at h
 obtain⟨v1,h2,h⟩:=jw h
 obtain⟨v3,h4,h⟩:=jw h
 obtain⟨v5,h6,h⟩:=jw h
 obtain⟨v7,h8,h⟩:=jw h
 have wh8:=qn4 h8
 obtain⟨v9,h10,h⟩:=jw h
 obtain⟨v11,h12,h⟩:=jw h
 rcases jx h with⟨h13,h⟩|⟨h13,h⟩
 ·obtain⟨v14,h15,h⟩:=jw h
  have wh15:j6 pr (X pr) 168 [sl 2 vsi v9.dn,.fn (.func 167) [] [.vptr (.str v1)]]=some (.bool v14,false):=js5 h15
  rcases jx h with⟨h16,h⟩|⟨h16,h⟩
  ·obtain⟨v17,h18,h⟩:=jw h
   obtain⟨v19,h20,h⟩:=jw h
   have wh20:j6 pr (X pr) 51 [.list false 1 [Iv v11,Iv v17]]=some (Iv v19,false):=W51 h20
   rcases jx h with⟨h21,h⟩|⟨h21,h⟩
   ·obtain⟨v22,h23,h⟩:=jw h
    have wh23:zj pr (X pr) 169 [.ptr 0 0,.str v5,.fn (.func 170) [] [.vptr (Iv v3),.vptr (.fn (.func 167) [] [.vptr (.str v1)]),.vptr (.str v1)]] [.cells [(Iv c0_0,false),(sl 5 zg c0_1,false),(sl 4 za c0_2,false),(sl 8 vun c0_3,false)],x1,x2,x3]=some (.tup [],false,[.cells [(Iv c0_0,false),(sl 5 zg c0_1,false),(sl 4 za v22,false),(sl 8 vun c0_3,false)],x1,x2,x3]):=q8h h23
    have hr:(0,v22)=r:=Option.some.inj h
    subst hr
    rw[zc (show pr.fns 107=some c107 from rfl) (by simp)]
    simp only[go_sem,seval,c107,jz h2,jz h4,jz h6,wh8,jz h10,W52 h12,h13,wh15,h16,W53 h18,wh20,h21,wh23]<;>rfl
   have hr:(v19,c0_2)=r:=Option.some.inj h
   subst hr
   rw[zc (show pr.fns 107=some c107 from rfl) (by simp)]
   simp only[go_sem,seval,c107,jz h2,jz h4,jz h6,wh8,jz h10,W52 h12,h13,wh15,h16,W53 h18,wh20,h21]<;>rfl
  obtain⟨v24,h25,h⟩:=jw h
  have wh25:=W53 h25
  obtain⟨v26,h27,h⟩:=jw h
  have wh27:j6 pr (X pr) 51 [.list false 1 [Iv v11,Iv v24]]=some (Iv v26,false):=W51 h27
  rcases jx h with⟨h28,h⟩|⟨h28,h⟩
  ·obtain⟨v29,h30,h⟩:=jw h
   have wh30:zj pr (X pr) 169 [.ptr 0 0,.str v5,.fn (.func 170) [] [.vptr (Iv v3),.vptr (.fn (.func 167) [] [.vptr (.str v1)]),.vptr (.str v1)]] [.cells [(Iv c0_0,false),(sl 5 zg c0_1,false),(sl 4 za c0_2,false),(sl 8 vun c0_3,false)],x1,x2,x3]=some (.tup [],false,[.cells [(Iv c0_0,false),(sl 5 zg c0_1,false),(sl 4 za v29,false),(sl 8 vun c0_3,false)],x1,x2,x3]):=q8h h30
   have hr:(0,v29)=r:=Option.some.inj h
   subst hr
   rw[zc (show pr.fns 107=some c107 from rfl) (by simp)]
   simp only[go_sem,seval,c107,jz h2,jz h4,jz h6,wh8,jz h10,W52 h12,h13,wh15,h16,wh25,wh27,h28,wh30]<;>rfl
  have hr:(v26,c0_2)=r:=Option.some.inj h
  subst hr
  rw[zc (show pr.fns 107=some c107 from rfl) (by simp)]
  simp only[go_sem,seval,c107,jz h2,jz h4,jz h6,wh8,jz h10,W52 h12,h13,wh15,h16,wh25,wh27,h28]<;>rfl
 obtain⟨v31,h32,h⟩:=jw h
 obtain⟨v33,h34,h⟩:=jw h
 have wh34:j6 pr (X pr) 51 [.list false 1 [Iv v11,Iv v31]]=some (Iv v33,false):=W51 h34
 rcases jx h with⟨h35,h⟩|⟨h35,h⟩
 ·obtain⟨v36,h37,h⟩:=jw h
  have wh37:zj pr (X pr) 169 [.ptr 0 0,.str v5,.fn (.func 170) [] [.vptr (Iv v3),.vptr (.fn (.func 167) [] [.vptr (.str v1)]),.vptr (.str v1)]] [.cells [(Iv c0_0,false),(sl 5 zg c0_1,false),(sl 4 za c0_2,false),(sl 8 vun c0_3,false)],x1,x2,x3]=some (.tup [],false,[.cells [(Iv c0_0,false),(sl 5 zg c0_1,false),(sl 4 za v36,false),(sl 8 vun c0_3,false)],x1,x2,x3]):=q8h h37
  have hr:(0,v36)=r:=Option.some.inj h
  subst hr
  rw[zc (show pr.fns 107=some c107 from rfl) (by simp)]
  simp only[go_sem,seval,c107,jz h2,jz h4,jz h6,wh8,jz h10,W52 h12,h13,W53 h32,wh34,h35,wh37]<;>rfl
 have hr:(v33,c0_2)=r:=Option.some.inj h
 subst hr
 rw[zc (show pr.fns 107=some c107 from rfl) (by simp)]
 simp only[go_sem,seval,c107,jz h2,jz h4,jz h6,wh8,jz h10,W52 h12,h13,W53 h32,wh34,h35]<;>rfl
def f108 (a1:ql)(c0_0:Int)(c0_1:Option (List qj))(c0_2:Option (List qk))(c0_3:Option (List qe)):Option (Int×(Option (List qk))):=
 jy (zz (a1.names.getD []) 1) fun v1=>
 jy (zz (a1.values.getD []) 1) fun v3=>
 jy (zz (a1.values.getD []) 2) fun v5=>
 jy (zz (a1.names.getD []) 0) fun v7=>
 jy (f165 (⟨c0_0,c0_1,c0_2,c0_3⟩) v7) fun v9=>
 jy (zz (c0_2.getD []) v9) fun v11=>
 jy (f53 (decide (v5<v3)) 11) fun v13=>
 jy (qw6 v11.dt (⟨v1,v3,v5⟩)) fun v15=>
 cond v15
  (jy (f53 false 5) fun v18=>
  jy (f51 (some [v13,v18])) fun v20=>
  cond (decide (v20=0))
   (jy (qtc v7 (⟨v1,v3,v5⟩) (⟨v1,v3,v5⟩) c0_0 c0_1 c0_2 c0_3) fun v23=>
   some (0,v23))
   (some (v20,c0_2)))
  (jy (f53 (decide (16≤((v11.dt.getD []).length:Int))) 5) fun v25=>
  jy (f51 (some [v13,v25])) fun v27=>
  cond (decide (v27=0))
   (jy (qtc v7 (⟨v1,v3,v5⟩) (⟨v1,v3,v5⟩) c0_0 c0_1 c0_2 c0_3) fun v30=>
   some (0,v30))
   (some (v27,c0_2)))
theorem j9b {a1:ql}{c0_0:Int}{c0_1:Option (List qj)}{c0_2:Option (List qk)}{c0_3:Option (List qe)}{x1:qr}{x2:qr}{x3:qr}{r}(h:f108 a1 c0_0 c0_1 c0_2 c0_3=some r):zj pr (X pr) 108 [.ptr 0 0,.agg [Iv a1.number,.str a1.kind,sl 1 yc a1.names,sl 1 yb a1.values,.str a1.text]] [.cells [(Iv c0_0,false),(sl 5 zg c0_1,false),(sl 4 za c0_2,false),(sl 8 vun c0_3,false)],x1,x2,x3]=some (Iv r.1,false,[.cells [(Iv c0_0,false),(sl 5 zg c0_1,false),(sl 4 za r.2,false),(sl 8 vun c0_3,false)],x1,x2,x3]):=by
 unfold f108 at h
 obtain⟨v1,h2,h⟩:=jw h
 obtain⟨v3,h4,h⟩:=jw h
 obtain⟨v5,h6,h⟩:=jw h
 obtain⟨v7,h8,h⟩:=jw h
 obtain⟨v9,h10,h⟩:=jw h
 have wh10:=qn4 h10
 obtain⟨v11,h12,h⟩:=jw h
 obtain⟨v13,h14,h⟩:=jw h
 have wh14:=W53 h14
 obtain⟨v15,h16,h⟩:=jw h
 have wh16:j6 pr (X pr) 175 [sl 3 zp v11.dt,.fn (.func 174) [] [.vptr (.agg [.str v1,Iv v3,Iv v5])]]=some (.bool v15,false):=jui h16
 rcases jx h with⟨h17,h⟩|⟨h17,h⟩
 ·obtain⟨v18,h19,h⟩:=jw h
  obtain⟨v20,h21,h⟩:=jw h
  have wh21:j6 pr (X pr) 51 [.list false 1 [Iv v13,Iv v18]]=some (Iv v20,false):=W51 h21
  rcases jx h with⟨h22,h⟩|⟨h22,h⟩
  ·obtain⟨v23,h24,h⟩:=jw h
   have wh24:zj pr (X pr) 169 [.ptr 0 0,.str v7,.fn (.func 176) [] [.vptr (.agg [.str v1,Iv v3,Iv v5]),.vptr (.fn (.func 174) [] [.vptr (.agg [.str v1,Iv v3,Iv v5])])]] [.cells [(Iv c0_0,false),(sl 5 zg c0_1,false),(sl 4 za c0_2,false),(sl 8 vun c0_3,false)],x1,x2,x3]=some (.tup [],false,[.cells [(Iv c0_0,false),(sl 5 zg c0_1,false),(sl 4 za v23,false),(sl 8 vun c0_3,false)],x1,x2,x3]):=jgn h24
   have hr:(0,v23)=r:=Option.some.inj h
   subst hr
   rw[zc (show pr.fns 108=some c108 from rfl) (by simp)]
   simp only[go_sem,seval,c108,jz h2,jz h4,jz h6,jz h8,wh10,jz h12,wh14,wh16,h17,W53 h19,wh21,h22,wh24]<;>rfl
  have hr:(v20,c0_2)=r:=Option.some.inj h
  subst hr
  rw[zc (show pr.fns 108=some c108 from rfl) (by simp)]
  simp only[go_sem,seval,c108,jz h2,jz h4,jz h6,jz h8,wh10,jz h12,wh14,wh16,h17,W53 h19,wh21,h22]<;>rfl
 obtain⟨v25,h26,h⟩:=jw h
 have wh26:=W53 h26
 obtain⟨v27,h28,h⟩:=jw h
 have wh28:j6 pr (X pr) 51 [.list false 1 [Iv v13,Iv v25]]=some (Iv v27,false):=W51 h28
 rcases jx h with⟨h29,h⟩|⟨h29,h⟩
 ·obtain⟨v30,h31,h⟩:=jw h
  have wh31:zj pr (X pr) 169 [.ptr 0 0,.str v7,.fn (.func 176) [] [.vptr (.agg [.str v1,Iv v3,Iv v5]),.vptr (.fn (.func 174) [] [.vptr (.agg [.str v1,Iv v3,Iv v5])])]] [.cells [(Iv c0_0,false),(sl 5 zg c0_1,false),(sl 4 za c0_2,false),(sl 8 vun c0_3,false)],x1,x2,x3]=some (.tup [],false,[.cells [(Iv c0_0,false),(sl 5 zg c0_1,false),(sl 4 za v30,false),(sl 8 vun c0_3,false)],x1,x2,x3]):=jgn h31
  have hr:(0,v30)=r:=Option.some.inj h
  subst hr
  rw[zc (show pr.fns 108=some c108 from rfl) (by simp)]
  simp only[go_sem,seval,c108,jz h2,jz h4,jz h6,jz h8,wh10,jz h12,wh14,wh16,h17,wh26,wh28,h29,wh31]<;>rfl
 have hr:(v27,c0_2)=r:=Option.some.inj h
 subst hr
 rw[zc (show pr.fns 108=some c108 from rfl) (by simp)]
 simp only[go_sem,seval,c108,jz h2,jz h4,jz h6,jz h8,wh10,jz h12,wh14,wh16,h17,wh26,wh28,h29]<;>rfl
def f109 (a1:ql)(c0_0:Int)(c0_1:Option (List qj))(c0_2:Option (List qk))(c0_3:Option (List qe)):Option (Int×(Option (List qk))):=
 jy (zz (a1.names.getD []) 0) fun v1=>
 jy (f165 (⟨c0_0,c0_1,c0_2,c0_3⟩) v1) fun v3=>
 jy (zz (c0_2.getD []) v3) fun v5=>
 jy (f53 (decide (((v5.dn.getD []).length:Int)=0)) 12) fun v7=>
 jy (f53 (decide (100≤((v5.docs.getD []).length:Int))) 5) fun v9=>
 jy (f51 (some [v7,v9])) fun v11=>
 cond (decide (v11=0))
  (jy (q7l c0_2 v3) fun v14=>
  some (0,v14))
  (some (v11,c0_2))
theorem zar {a1:ql}{c0_0:Int}{c0_1:Option (List qj)}{c0_2:Option (List qk)}{c0_3:Option (List qe)}{x1:qr}{x2:qr}{x3:qr}{r}(h:f109 a1 c0_0 c0_1 c0_2 c0_3=some r):zj pr (X pr) 109 [.ptr 0 0,.agg [Iv a1.number,.str a1.kind,sl 1 yc a1.names,sl 1 yb a1.values,.str a1.text]] [.cells [(Iv c0_0,false),(sl 5 zg c0_1,false),(sl 4 za c0_2,false),(sl 8 vun c0_3,false)],x1,x2,x3]=some (Iv r.1,false,[.cells [(Iv c0_0,false),(sl 5 zg c0_1,false),(sl 4 za r.2,false),(sl 8 vun c0_3,false)],x1,x2,x3]):=by
 unfold f109 at h
 obtain⟨v1,h2,h⟩:=jw h
 obtain⟨v3,h4,h⟩:=jw h
 have wh4:=qn4 h4
 obtain⟨v5,h6,h⟩:=jw h
 obtain⟨v7,h8,h⟩:=jw h
 have wh8:=W53 h8
 obtain⟨v9,h10,h⟩:=jw h
 have wh10:=W53 h10
 obtain⟨v11,h12,h⟩:=jw h
 have wh12:j6 pr (X pr) 51 [.list false 1 [Iv v7,Iv v9]]=some (Iv v11,false):=W51 h12
 rcases jx h with⟨h13,h⟩|⟨h13,h⟩
 ·obtain⟨v14,h15,h⟩:=jw h
  have wh15:j6 pr (X pr) 178 [sl 4 za c0_2,Iv v3,.fn (.func 179) [] []]=some (sl 4 za v14,false):=jfu h15
  have hr:(0,v14)=r:=Option.some.inj h
  subst hr
  rw[zc (show pr.fns 109=some c109 from rfl) (by simp)]
  simp only[go_sem,seval,c109,jz h2,wh4,jz h6,wh8,wh10,wh12,h13,wh15]<;>rfl
 have hr:(v11,c0_2)=r:=Option.some.inj h
 subst hr
 rw[zc (show pr.fns 109=some c109 from rfl) (by simp)]
 simp only[go_sem,seval,c109,jz h2,wh4,jz h6,wh8,wh10,wh12,h13]<;>rfl
def f110 (a1:ql)(c0_0:Int)(c0_1:Option (List qj))(c0_2:Option (List qk))(c0_3:Option (List qe)):Option (Int×(Option (List qe))×Bool):=
 jy (zz (a1.names.getD []) 1) fun v1=>
 jy (f165 (⟨c0_0,c0_1,c0_2,c0_3⟩) v1) fun v3=>
 jy (zz (c0_2.getD []) v3) fun v5=>
 jy (f182 v5) fun v7=>
 jy (zz (a1.names.getD []) 0) fun v9=>
 jy (f93 (⟨c0_0,c0_1,c0_2,c0_3⟩) v9) fun v11=>
 jy (f53 (decide (0≤v11)) 9) fun v13=>
 jy (f53 (decide (v7=0)) 32) fun v15=>
 jy (f53 (decide (256≤((c0_3.getD []).length:Int))) 5) fun v17=>
 jy (f51 (some [v13,v15,v17])) fun v19=>
 cond (decide (v19=0))
  (jy (f183 c0_3 (⟨v9,v1,v7,none,none,[],false,0⟩)) fun v22=>
  some (0,v22,true))
  (some (v19,c0_3,false))
theorem j26 {a1:ql}{c0_0:Int}{c0_1:Option (List qj)}{c0_2:Option (List qk)}{c0_3:Option (List qe)}{x1:qr}{x2:qr}{x3:qr}{r}(h:f110 a1 c0_0 c0_1 c0_2 c0_3=some r):zj pr (X pr) 110 [.ptr 0 0,.agg [Iv a1.number,.str a1.kind,sl 1 yc a1.names,sl 1 yb a1.values,.str a1.text]] [.cells [(Iv c0_0,false),(sl 5 zg c0_1,false),(sl 4 za c0_2,false),(sl 8 vun c0_3,false)],x1,x2,x3]=some (Iv r.1,false,[.cells [(Iv c0_0,false),(sl 5 zg c0_1,false),(sl 4 za c0_2,false),(sl 8 vun r.2.1,r.2.2)],x1,x2,x3]):=by
 unfold f110 at h
 obtain⟨v1,h2,h⟩:=jw h
 obtain⟨v3,h4,h⟩:=jw h
 have wh4:=qn4 h4
 obtain⟨v5,h6,h⟩:=jw h
 obtain⟨v7,h8,h⟩:=jw h
 have wh8:=jop h8
 obtain⟨v9,h10,h⟩:=jw h
 obtain⟨v11,h12,h⟩:=jw h
 have wh12:=W93 h12
 obtain⟨v13,h14,h⟩:=jw h
 have wh14:=W53 h14
 obtain⟨v15,h16,h⟩:=jw h
 have wh16:=W53 h16
 obtain⟨v17,h18,h⟩:=jw h
 have wh18:=W53 h18
 obtain⟨v19,h20,h⟩:=jw h
 have wh20:j6 pr (X pr) 51 [.list false 1 [Iv v13,Iv v15,Iv v17]]=some (Iv v19,false):=W51 h20
 rcases jx h with⟨h21,h⟩|⟨h21,h⟩
 ·obtain⟨v22,h23,h⟩:=jw h
  have wh23:j6 pr (X pr) 183 [sl 8 vun c0_3,.agg [.str v9,.str v1,Iv v7,.list true 0 [],.list true 0 [],.str [],.bool false,Iv 0]]=some (sl 8 vun v22,true):=j72 h23
  have hr:(0,v22,true)=r:=Option.some.inj h
  subst hr
  rw[zc (show pr.fns 110=some c110 from rfl) (by simp)]
  simp only[go_sem,seval,c110,jz h2,wh4,jz h6,wh8,jz h10,wh12,wh14,wh16,wh18,wh20,h21,wh23]<;>rfl
 have hr:(v19,c0_3,false)=r:=Option.some.inj h
 subst hr
 rw[zc (show pr.fns 110=some c110 from rfl) (by simp)]
 simp only[go_sem,seval,c110,jz h2,wh4,jz h6,wh8,jz h10,wh12,wh14,wh16,wh18,wh20,h21]<;>rfl
def f112 (a1:ql)(c0_0:Int)(c0_1:Option (List qj))(c0_2:Option (List qk))(c0_3:Option (List qe)):Option (Int×(Option (List qe))):=
 jy (zz (a1.names.getD []) 0) fun v1=>
 jy (f93 (⟨c0_0,c0_1,c0_2,c0_3⟩) v1) fun v3=>
 jy (zz (c0_3.getD []) v3) fun v5=>
 jy (f134 (⟨c0_0,c0_1,c0_2,c0_3⟩) v5) fun v7=>
 jy (qye v7.tests a1) fun v9=>
 jy (f53 v5.shipped 21) fun v11=>
 jy (f53 (!v9) 7) fun v13=>
 jy (f53 (decide (64≤((v5.results.getD []).length:Int))) 5) fun v15=>
 jy (f51 (some [v11,v13,v15])) fun v17=>
 cond (decide (v17=0))
  (jy (jcj c0_3 v3 a1) fun v20=>
  some (0,v20))
  (some (v17,c0_3))
theorem zal {a1:ql}{c0_0:Int}{c0_1:Option (List qj)}{c0_2:Option (List qk)}{c0_3:Option (List qe)}{x1:qr}{x2:qr}{x3:qr}{r}(h:f112 a1 c0_0 c0_1 c0_2 c0_3=some r):zj pr (X pr) 112 [.ptr 0 0,.agg [Iv a1.number,.str a1.kind,sl 1 yc a1.names,sl 1 yb a1.values,.str a1.text]] [.cells [(Iv c0_0,false),(sl 5 zg c0_1,false),(sl 4 za c0_2,false),(sl 8 vun c0_3,false)],x1,x2,x3]=some (Iv r.1,false,[.cells [(Iv c0_0,false),(sl 5 zg c0_1,false),(sl 4 za c0_2,false),(sl 8 vun r.2,false)],x1,x2,x3]):=by
 unfold f112 at h
 obtain⟨v1,h2,h⟩:=jw h
 obtain⟨v3,h4,h⟩:=jw h
 have wh4:=W93 h4
 obtain⟨v5,h6,h⟩:=jw h
 obtain⟨v7,h8,h⟩:=jw h
 have wh8:=q7c h8
 obtain⟨v9,h10,h⟩:=jw h
 have wh10:j6 pr (X pr) 175 [sl 3 zp v7.tests,.fn (.func 192) [] [.vptr (.agg [Iv a1.number,.str a1.kind,sl 1 yc a1.names,sl 1 yb a1.values,.str a1.text])]]=some (.bool v9,false):=jvj h10
 obtain⟨v11,h12,h⟩:=jw h
 have wh12:=W53 h12
 obtain⟨v13,h14,h⟩:=jw h
 have wh14:=W53 h14
 obtain⟨v15,h16,h⟩:=jw h
 have wh16:=W53 h16
 obtain⟨v17,h18,h⟩:=jw h
 have wh18:j6 pr (X pr) 51 [.list false 1 [Iv v11,Iv v13,Iv v15]]=some (Iv v17,false):=W51 h18
 rcases jx h with⟨h19,h⟩|⟨h19,h⟩
 ·obtain⟨v20,h21,h⟩:=jw h
  have wh21:j6 pr (X pr) 189 [sl 8 vun c0_3,Iv v3,.fn (.func 193) [] [.vptr (.agg [Iv a1.number,.str a1.kind,sl 1 yc a1.names,sl 1 yb a1.values,.str a1.text])]]=some (sl 8 vun v20,false):=jdy h21
  have hr:(0,v20)=r:=Option.some.inj h
  subst hr
  rw[zc (show pr.fns 112=some c112 from rfl) (by simp)]
  simp only[go_sem,seval,c112,jz h2,wh4,jz h6,wh8,wh10,wh12,wh14,wh16,wh18,h19,wh21]<;>rfl
 have hr:(v17,c0_3)=r:=Option.some.inj h
 subst hr
 rw[zc (show pr.fns 112=some c112 from rfl) (by simp)]
 simp only[go_sem,seval,c112,jz h2,wh4,jz h6,wh8,wh10,wh12,wh14,wh16,wh18,h19]<;>rfl
def f113 (a1:ql)(c0_0:Int)(c0_1:Option (List qj))(c0_2:Option (List qk))(c0_3:Option (List qe)):Option (Int×(Option (List qe))):=
 jy (zz (a1.names.getD []) 0) fun v1=>
 jy (f93 (⟨c0_0,c0_1,c0_2,c0_3⟩) v1) fun v3=>
 jy (zz (c0_3.getD []) v3) fun v5=>
 jy (f140 (⟨c0_0,c0_1,c0_2,c0_3⟩) v5) fun v7=>
 jy (f53 v5.shipped 21) fun v9=>
 jy (f53 (decide (v5.version=v7)) 32) fun v11=>
 jy (f51 (some [v9,v11])) fun v13=>
 cond (decide (v13=0))
  (jy (jcy c0_3 v3 v7) fun v16=>
  some (0,v16))
  (some (v13,c0_3))
theorem za1 {a1:ql}{c0_0:Int}{c0_1:Option (List qj)}{c0_2:Option (List qk)}{c0_3:Option (List qe)}{x1:qr}{x2:qr}{x3:qr}{r}(h:f113 a1 c0_0 c0_1 c0_2 c0_3=some r):zj pr (X pr) 113 [.ptr 0 0,.agg [Iv a1.number,.str a1.kind,sl 1 yc a1.names,sl 1 yb a1.values,.str a1.text]] [.cells [(Iv c0_0,false),(sl 5 zg c0_1,false),(sl 4 za c0_2,false),(sl 8 vun c0_3,false)],x1,x2,x3]=some (Iv r.1,false,[.cells [(Iv c0_0,false),(sl 5 zg c0_1,false),(sl 4 za c0_2,false),(sl 8 vun r.2,false)],x1,x2,x3]):=by
 unfold f113 at h
 obtain⟨v1,h2,h⟩:=jw h
 obtain⟨v3,h4,h⟩:=jw h
 have wh4:=W93 h4
 obtain⟨v5,h6,h⟩:=jw h
 obtain⟨v7,h8,h⟩:=jw h
 have wh8:=jj9 h8
 obtain⟨v9,h10,h⟩:=jw h
 have wh10:=W53 h10
 obtain⟨v11,h12,h⟩:=jw h
 have wh12:=W53 h12
 obtain⟨v13,h14,h⟩:=jw h
 have wh14:j6 pr (X pr) 51 [.list false 1 [Iv v9,Iv v11]]=some (Iv v13,false):=W51 h14
 rcases jx h with⟨h15,h⟩|⟨h15,h⟩
 ·obtain⟨v16,h17,h⟩:=jw h
  have wh17:j6 pr (X pr) 189 [sl 8 vun c0_3,Iv v3,.fn (.func 195) [] [.vptr (Iv v7)]]=some (sl 8 vun v16,false):=jfe h17
  have hr:(0,v16)=r:=Option.some.inj h
  subst hr
  rw[zc (show pr.fns 113=some c113 from rfl) (by simp)]
  simp only[go_sem,seval,c113,jz h2,wh4,jz h6,wh8,wh10,wh12,wh14,h15,wh17]<;>rfl
 have hr:(v13,c0_3)=r:=Option.some.inj h
 subst hr
 rw[zc (show pr.fns 113=some c113 from rfl) (by simp)]
 simp only[go_sem,seval,c113,jz h2,wh4,jz h6,wh8,wh10,wh12,wh14,h15]<;>rfl
def f114 (a1:ql)(c0_0:Int)(c0_1:Option (List qj))(c0_2:Option (List qk))(c0_3:Option (List qe)):Option (Int×(Option (List qe))):=
 jy (zz (a1.names.getD []) 0) fun v1=>
 jy (f93 (⟨c0_0,c0_1,c0_2,c0_3⟩) v1) fun v3=>
 jy (zz (a1.names.getD []) 1) fun v5=>
 jy (f93 (⟨c0_0,c0_1,c0_2,c0_3⟩) v5) fun v7=>
 jy (zz (c0_3.getD []) v3) fun v9=>
 jy (zz (c0_3.getD []) v7) fun v11=>
 jy (f53 (decide (v3=v7)) 9) fun v13=>
 cond (decide (v9.product=v11.product))
  (jy (f53 (!decide (v9.version=v11.version)) 30) fun v16=>
  cond v9.shipped
   (jy (f53 true 21) fun v19=>
   cond (decide (v9.partner=[]))
    (jy (f53 (!decide (v11.partner=[])) 35) fun v22=>
    jy (f51 (some [v13,v16,v19,v22])) fun v24=>
    cond (decide (v24=0))
     (jy (qoa c0_3 v3 v11) fun v27=>
     jy (qnz v27 v7 (⟨v9.name,v9.product,v9.version,v9.uses,v9.results,v9.partner,true,v9.complaints⟩)) fun v29=>
     some (0,v29))
     (some (v24,c0_3)))
    (jy (f53 true 35) fun v31=>
    jy (f51 (some [v13,v16,v19,v31])) fun v33=>
    cond (decide (v33=0))
     (jy (qoa c0_3 v3 v11) fun v36=>
     jy (qnz v36 v7 (⟨v9.name,v9.product,v9.version,v9.uses,v9.results,v9.partner,true,v9.complaints⟩)) fun v38=>
     some (0,v38))
     (some (v33,c0_3))))
   (jy (f53 v11.shipped 21) fun v40=>
   cond (decide (v9.partner=[]))
    (jy (f53 (!decide (v11.partner=[])) 35) fun v43=>
    jy (f51 (some [v13,v16,v40,v43])) fun v45=>
    cond (decide (v45=0))
     (jy (qoa c0_3 v3 v11) fun v48=>
     jy (qnz v48 v7 (⟨v9.name,v9.product,v9.version,v9.uses,v9.results,v9.partner,false,v9.complaints⟩)) fun v50=>
     some (0,v50))
     (some (v45,c0_3)))
    (jy (f53 true 35) fun v52=>
    jy (f51 (some [v13,v16,v40,v52])) fun v54=>
    cond (decide (v54=0))
     (jy (qoa c0_3 v3 v11) fun v57=>
     jy (qnz v57 v7 (⟨v9.name,v9.product,v9.version,v9.uses,v9.results,v9.partner,false,v9.complaints⟩)) fun v59=>
     some (0,v59))
     (some (v54,c0_3)))))
  (jy (f53 true 30) fun v61=>
  cond v9.shipped
   (jy (f53 true 21) fun v64=>
   cond (decide (v9.partner=[]))
    (jy (f53 (!decide (v11.partner=[])) 35) fun v67=>
    jy (f51 (some [v13,v61,v64,v67])) fun v69=>
    cond (decide (v69=0))
     (jy (qoa c0_3 v3 v11) fun v72=>
     jy (qnz v72 v7 (⟨v9.name,v9.product,v9.version,v9.uses,v9.results,v9.partner,true,v9.complaints⟩)) fun v74=>
     some (0,v74))
     (some (v69,c0_3)))
    (jy (f53 true 35) fun v76=>
    jy (f51 (some [v13,v61,v64,v76])) fun v78=>
    cond (decide (v78=0))
     (jy (qoa c0_3 v3 v11) fun v81=>
     jy (qnz v81 v7 (⟨v9.name,v9.product,v9.version,v9.uses,v9.results,v9.partner,true,v9.complaints⟩)) fun v83=>
     some (0,v83))
     (some (v78,c0_3))))
   (jy (f53 v11.shipped 21) fun v85=>
   cond (decide (v9.partner=[]))
    (jy (f53 (!decide (v11.partner=[])) 35) fun v88=>
    jy (f51 (some [v13,v61,v85,v88])) fun v90=>
    cond (decide (v90=0))
     (jy (qoa c0_3 v3 v11) fun v93=>
     jy (qnz v93 v7 (⟨v9.name,v9.product,v9.version,v9.uses,v9.results,v9.partner,false,v9.complaints⟩)) fun v95=>
     some (0,v95))
     (some (v90,c0_3)))
    (jy (f53 true 35) fun v97=>
    jy (f51 (some [v13,v61,v85,v97])) fun v99=>
    cond (decide (v99=0))
     (jy (qoa c0_3 v3 v11) fun v102=>
     jy (qnz v102 v7 (⟨v9.name,v9.product,v9.version,v9.uses,v9.results,v9.partner,false,v9.complaints⟩)) fun v104=>
     some (0,v104))
     (some (v99,c0_3)))))
theorem j3m {a1:ql}{c0_0:Int}{c0_1:Option (List qj)}{c0_2:Option (List qk)}{c0_3:Option (List qe)}{x1:qr}{x2:qr}{x3:qr}{r}(h:f114 a1 c0_0 c0_1 c0_2 c0_3=some r):zj pr (X pr) 114 [.ptr 0 0,.agg [Iv a1.number,.str a1.kind,sl 1 yc a1.names,sl 1 yb a1.values,.str a1.text]] [.cells [(Iv c0_0,false),(sl 5 zg c0_1,false),(sl 4 za c0_2,false),(sl 8 vun c0_3,false)],x1,x2,x3]=some (Iv r.1,false,[.cells [(Iv c0_0,false),(sl 5 zg c0_1,false),(sl 4 za c0_2,false),(sl 8 vun r.2,false)],x1,x2,x3]):=by
 unfold f114 at h
 obtain⟨v1,h2,h⟩:=jw h
 obtain⟨v3,h4,h⟩:=jw h
 have wh4:=W93 h4
 obtain⟨v5,h6,h⟩:=jw h
 obtain⟨v7,h8,h⟩:=jw h
 have wh8:=W93 h8
 obtain⟨v9,h10,h⟩:=jw h
 obtain⟨v11,h12,h⟩:=jw h
 obtain⟨v13,h14,h⟩:=jw h
 have wh14:=W53 h14
 rcases jx h with⟨h15,h⟩|⟨h15,h⟩
 ·obtain⟨v16,h17,h⟩:=jw h
  have wh17:=W53 h17
  rcases jx h with⟨h18,h⟩|⟨h18,h⟩
  ·obtain⟨v19,h20,h⟩:=jw h
   rcases jx h with⟨h21,h⟩|⟨h21,h⟩
   ·obtain⟨v22,h23,h⟩:=jw h
    have wh23:=W53 h23
    obtain⟨v24,h25,h⟩:=jw h
    have wh25:j6 pr (X pr) 51 [.list false 1 [Iv v13,Iv v16,Iv v19,Iv v22]]=some (Iv v24,false):=W51 h25
    rcases jx h with⟨h26,h⟩|⟨h26,h⟩
    ·obtain⟨v27,h28,h⟩:=jw h
     have wh28:j6 pr (X pr) 189 [sl 8 vun c0_3,Iv v3,.fn (.func 196) [] [.vptr (.agg [.str v11.name,.str v11.product,Iv v11.version,sl 2 vsi v11.uses,sl 3 zp v11.results,.str v11.partner,.bool v11.shipped,Iv v11.complaints])]]=some (sl 8 vun v27,false):=qgl h28
     obtain⟨v29,h30,h⟩:=jw h
     have wh30:j6 pr (X pr) 189 [sl 8 vun v27,Iv v7,.fn (.func 197) [] [.vptr (.agg [.str v9.name,.str v9.product,Iv v9.version,sl 2 vsi v9.uses,sl 3 zp v9.results,.str v9.partner,.bool true,Iv v9.complaints])]]=some (sl 8 vun v29,false):=qgo h30
     have hr:(0,v29)=r:=Option.some.inj h
     subst hr
     rw[zc (show pr.fns 114=some c114 from rfl) (by simp)]
     simp only[go_sem,seval,c114,jz h2,wh4,jz h6,wh8,jz h10,jz h12,wh14,h15,wh17,h18,W53 h20,h21,wh23,wh25,h26,wh28,wh30]<;>rfl
    have hr:(v24,c0_3)=r:=Option.some.inj h
    subst hr
    rw[zc (show pr.fns 114=some c114 from rfl) (by simp)]
    simp only[go_sem,seval,c114,jz h2,wh4,jz h6,wh8,jz h10,jz h12,wh14,h15,wh17,h18,W53 h20,h21,wh23,wh25,h26]<;>rfl
   obtain⟨v31,h32,h⟩:=jw h
   obtain⟨v33,h34,h⟩:=jw h
   have wh34:j6 pr (X pr) 51 [.list false 1 [Iv v13,Iv v16,Iv v19,Iv v31]]=some (Iv v33,false):=W51 h34
   rcases jx h with⟨h35,h⟩|⟨h35,h⟩
   ·obtain⟨v36,h37,h⟩:=jw h
    have wh37:j6 pr (X pr) 189 [sl 8 vun c0_3,Iv v3,.fn (.func 196) [] [.vptr (.agg [.str v11.name,.str v11.product,Iv v11.version,sl 2 vsi v11.uses,sl 3 zp v11.results,.str v11.partner,.bool v11.shipped,Iv v11.complaints])]]=some (sl 8 vun v36,false):=qgl h37
    obtain⟨v38,h39,h⟩:=jw h
    have wh39:j6 pr (X pr) 189 [sl 8 vun v36,Iv v7,.fn (.func 197) [] [.vptr (.agg [.str v9.name,.str v9.product,Iv v9.version,sl 2 vsi v9.uses,sl 3 zp v9.results,.str v9.partner,.bool true,Iv v9.complaints])]]=some (sl 8 vun v38,false):=qgo h39
    have hr:(0,v38)=r:=Option.some.inj h
    subst hr
    rw[zc (show pr.fns 114=some c114 from rfl) (by simp)]
    simp only[go_sem,seval,c114,jz h2,wh4,jz h6,wh8,jz h10,jz h12,wh14,h15,wh17,h18,W53 h20,h21,W53 h32,wh34,h35,wh37,wh39]<;>rfl
   have hr:(v33,c0_3)=r:=Option.some.inj h
   subst hr
   rw[zc (show pr.fns 114=some c114 from rfl) (by simp)]
   simp only[go_sem,seval,c114,jz h2,wh4,jz h6,wh8,jz h10,jz h12,wh14,h15,wh17,h18,W53 h20,h21,W53 h32,wh34,h35]<;>rfl
  obtain⟨v40,h41,h⟩:=jw h
  have wh41:=W53 h41
  rcases jx h with⟨h42,h⟩|⟨h42,h⟩
  ·obtain⟨v43,h44,h⟩:=jw h
   have wh44:=W53 h44
   obtain⟨v45,h46,h⟩:=jw h
   have wh46:j6 pr (X pr) 51 [.list false 1 [Iv v13,Iv v16,Iv v40,Iv v43]]=some (Iv v45,false):=W51 h46
   rcases jx h with⟨h47,h⟩|⟨h47,h⟩
   ·obtain⟨v48,h49,h⟩:=jw h
    have wh49:j6 pr (X pr) 189 [sl 8 vun c0_3,Iv v3,.fn (.func 196) [] [.vptr (.agg [.str v11.name,.str v11.product,Iv v11.version,sl 2 vsi v11.uses,sl 3 zp v11.results,.str v11.partner,.bool v11.shipped,Iv v11.complaints])]]=some (sl 8 vun v48,false):=qgl h49
    obtain⟨v50,h51,h⟩:=jw h
    have wh51:j6 pr (X pr) 189 [sl 8 vun v48,Iv v7,.fn (.func 197) [] [.vptr (.agg [.str v9.name,.str v9.product,Iv v9.version,sl 2 vsi v9.uses,sl 3 zp v9.results,.str v9.partner,.bool false,Iv v9.complaints])]]=some (sl 8 vun v50,false):=qgo h51
    have hr:(0,v50)=r:=Option.some.inj h
    subst hr
    rw[zc (show pr.fns 114=some c114 from rfl) (by simp)]
    simp only[go_sem,seval,c114,jz h2,wh4,jz h6,wh8,jz h10,jz h12,wh14,h15,wh17,h18,wh41,h42,wh44,wh46,h47,wh49,wh51]<;>rfl
   have hr:(v45,c0_3)=r:=Option.some.inj h
   subst hr
   rw[zc (show pr.fns 114=some c114 from rfl) (by simp)]
   simp only[go_sem,seval,c114,jz h2,wh4,jz h6,wh8,jz h10,jz h12,wh14,h15,wh17,h18,wh41,h42,wh44,wh46,h47]<;>rfl
  obtain⟨v52,h53,h⟩:=jw h
  obtain⟨v54,h55,h⟩:=jw h
  have wh55:j6 pr (X pr) 51 [.list false 1 [Iv v13,Iv v16,Iv v40,Iv v52]]=some (Iv v54,false):=W51 h55
  rcases jx h with⟨h56,h⟩|⟨h56,h⟩
  ·obtain⟨v57,h58,h⟩:=jw h
   have wh58:j6 pr (X pr) 189 [sl 8 vun c0_3,Iv v3,.fn (.func 196) [] [.vptr (.agg [.str v11.name,.str v11.product,Iv v11.version,sl 2 vsi v11.uses,sl 3 zp v11.results,.str v11.partner,.bool v11.shipped,Iv v11.complaints])]]=some (sl 8 vun v57,false):=qgl h58
   obtain⟨v59,h60,h⟩:=jw h
   have wh60:j6 pr (X pr) 189 [sl 8 vun v57,Iv v7,.fn (.func 197) [] [.vptr (.agg [.str v9.name,.str v9.product,Iv v9.version,sl 2 vsi v9.uses,sl 3 zp v9.results,.str v9.partner,.bool false,Iv v9.complaints])]]=some (sl 8 vun v59,false):=qgo h60
   have hr:(0,v59)=r:=Option.some.inj h
   subst hr
   rw[zc (show pr.fns 114=some c114 from rfl) (by simp)]
   simp only[go_sem,seval,c114,jz h2,wh4,jz h6,wh8,jz h10,jz h12,wh14,h15,wh17,h18,wh41,h42,W53 h53,wh55,h56,wh58,wh60]<;>rfl
  have hr:(v54,c0_3)=r:=Option.some.inj h
  subst hr
  rw[zc (show pr.fns 114=some c114 from rfl) (by simp)]
  simp only[go_sem,seval,c114,jz h2,wh4,jz h6,wh8,jz h10,jz h12,wh14,h15,wh17,h18,wh41,h42,W53 h53,wh55,h56]<;>rfl
 obtain⟨v61,h62,h⟩:=jw h
 rcases jx h with⟨h63,h⟩|⟨h63,h⟩
 ·obtain⟨v64,h65,h⟩:=jw h
  rcases jx h with⟨h66,h⟩|⟨h66,h⟩
  ·obtain⟨v67,h68,h⟩:=jw h
   have wh68:=W53 h68
   obtain⟨v69,h70,h⟩:=jw h
   have wh70:j6 pr (X pr) 51 [.list false 1 [Iv v13,Iv v61,Iv v64,Iv v67]]=some (Iv v69,false):=W51 h70
   rcases jx h with⟨h71,h⟩|⟨h71,h⟩
   ·obtain⟨v72,h73,h⟩:=jw h
    have wh73:j6 pr (X pr) 189 [sl 8 vun c0_3,Iv v3,.fn (.func 196) [] [.vptr (.agg [.str v11.name,.str v11.product,Iv v11.version,sl 2 vsi v11.uses,sl 3 zp v11.results,.str v11.partner,.bool v11.shipped,Iv v11.complaints])]]=some (sl 8 vun v72,false):=qgl h73
    obtain⟨v74,h75,h⟩:=jw h
    have wh75:j6 pr (X pr) 189 [sl 8 vun v72,Iv v7,.fn (.func 197) [] [.vptr (.agg [.str v9.name,.str v9.product,Iv v9.version,sl 2 vsi v9.uses,sl 3 zp v9.results,.str v9.partner,.bool true,Iv v9.complaints])]]=some (sl 8 vun v74,false):=qgo h75
    have hr:(0,v74)=r:=Option.some.inj h
    subst hr
    rw[zc (show pr.fns 114=some c114 from rfl) (by simp)]
    simp only[go_sem,seval,c114,jz h2,wh4,jz h6,wh8,jz h10,jz h12,wh14,h15,W53 h62,h63,W53 h65,h66,wh68,wh70,h71,wh73,wh75]<;>rfl
   have hr:(v69,c0_3)=r:=Option.some.inj h
   subst hr
   rw[zc (show pr.fns 114=some c114 from rfl) (by simp)]
   simp only[go_sem,seval,c114,jz h2,wh4,jz h6,wh8,jz h10,jz h12,wh14,h15,W53 h62,h63,W53 h65,h66,wh68,wh70,h71]<;>rfl
  obtain⟨v76,h77,h⟩:=jw h
  obtain⟨v78,h79,h⟩:=jw h
  have wh79:j6 pr (X pr) 51 [.list false 1 [Iv v13,Iv v61,Iv v64,Iv v76]]=some (Iv v78,false):=W51 h79
  rcases jx h with⟨h80,h⟩|⟨h80,h⟩
  ·obtain⟨v81,h82,h⟩:=jw h
   have wh82:j6 pr (X pr) 189 [sl 8 vun c0_3,Iv v3,.fn (.func 196) [] [.vptr (.agg [.str v11.name,.str v11.product,Iv v11.version,sl 2 vsi v11.uses,sl 3 zp v11.results,.str v11.partner,.bool v11.shipped,Iv v11.complaints])]]=some (sl 8 vun v81,false):=qgl h82
   obtain⟨v83,h84,h⟩:=jw h
   have wh84:j6 pr (X pr) 189 [sl 8 vun v81,Iv v7,.fn (.func 197) [] [.vptr (.agg [.str v9.name,.str v9.product,Iv v9.version,sl 2 vsi v9.uses,sl 3 zp v9.results,.str v9.partner,.bool true,Iv v9.complaints])]]=some (sl 8 vun v83,false):=qgo h84
   have hr:(0,v83)=r:=Option.some.inj h
   subst hr
   rw[zc (show pr.fns 114=some c114 from rfl) (by simp)]
   simp only[go_sem,seval,c114,jz h2,wh4,jz h6,wh8,jz h10,jz h12,wh14,h15,W53 h62,h63,W53 h65,h66,W53 h77,wh79,h80,wh82,wh84]<;>rfl
  have hr:(v78,c0_3)=r:=Option.some.inj h
  subst hr
  rw[zc (show pr.fns 114=some c114 from rfl) (by simp)]
  simp only[go_sem,seval,c114,jz h2,wh4,jz h6,wh8,jz h10,jz h12,wh14,h15,W53 h62,h63,W53 h65,h66,W53 h77,wh79,h80]<;>rfl
 obtain⟨v85,h86,h⟩:=jw h
 have wh86:=W53 h86
 rcases jx h with⟨h87,h⟩|⟨h87,h⟩
 ·obtain⟨v88,h89,h⟩:=jw h
  have wh89:=W53 h89
  obtain⟨v90,h91,h⟩:=jw h
  have wh91:j6 pr (X pr) 51 [.list false 1 [Iv v13,Iv v61,Iv v85,Iv v88]]=some (Iv v90,false):=W51 h91
  rcases jx h with⟨h92,h⟩|⟨h92,h⟩
  ·obtain⟨v93,h94,h⟩:=jw h
   have wh94:j6 pr (X pr) 189 [sl 8 vun c0_3,Iv v3,.fn (.func 196) [] [.vptr (.agg [.str v11.name,.str v11.product,Iv v11.version,sl 2 vsi v11.uses,sl 3 zp v11.results,.str v11.partner,.bool v11.shipped,Iv v11.complaints])]]=some (sl 8 vun v93,false):=qgl h94
   obtain⟨v95,h96,h⟩:=jw h
   have wh96:j6 pr (X pr) 189 [sl 8 vun v93,Iv v7,.fn (.func 197) [] [.vptr (.agg [.str v9.name,.str v9.product,Iv v9.version,sl 2 vsi v9.uses,sl 3 zp v9.results,.str v9.partner,.bool false,Iv v9.complaints])]]=some (sl 8 vun v95,false):=qgo h96
   have hr:(0,v95)=r:=Option.some.inj h
   subst hr
   rw[zc (show pr.fns 114=some c114 from rfl) (by simp)]
   simp only[go_sem,seval,c114,jz h2,wh4,jz h6,wh8,jz h10,jz h12,wh14,h15,W53 h62,h63,wh86,h87,wh89,wh91,h92,wh94,wh96]<;>rfl
  have hr:(v90,c0_3)=r:=Option.some.inj h
  subst hr
  rw[zc (show pr.fns 114=some c114 from rfl) (by simp)]
  simp only[go_sem,seval,c114,jz h2,wh4,jz h6,wh8,jz h10,jz h12,wh14,h15,W53 h62,h63,wh86,h87,wh89,wh91,h92]<;>rfl
 obtain⟨v97,h98,h⟩:=jw h
 obtain⟨v99,h100,h⟩:=jw h
 have wh100:j6 pr (X pr) 51 [.list false 1 [Iv v13,Iv v61,Iv v85,Iv v97]]=some (Iv v99,false):=W51 h100
 rcases jx h with⟨h101,h⟩|⟨h101,h⟩
 ·obtain⟨v102,h103,h⟩:=jw h
  have wh103:j6 pr (X pr) 189 [sl 8 vun c0_3,Iv v3,.fn (.func 196) [] [.vptr (.agg [.str v11.name,.str v11.product,Iv v11.version,sl 2 vsi v11.uses,sl 3 zp v11.results,.str v11.partner,.bool v11.shipped,Iv v11.complaints])]]=some (sl 8 vun v102,false):=qgl h103
  obtain⟨v104,h105,h⟩:=jw h
  have wh105:j6 pr (X pr) 189 [sl 8 vun v102,Iv v7,.fn (.func 197) [] [.vptr (.agg [.str v9.name,.str v9.product,Iv v9.version,sl 2 vsi v9.uses,sl 3 zp v9.results,.str v9.partner,.bool false,Iv v9.complaints])]]=some (sl 8 vun v104,false):=qgo h105
  have hr:(0,v104)=r:=Option.some.inj h
  subst hr
  rw[zc (show pr.fns 114=some c114 from rfl) (by simp)]
  simp only[go_sem,seval,c114,jz h2,wh4,jz h6,wh8,jz h10,jz h12,wh14,h15,W53 h62,h63,wh86,h87,W53 h98,wh100,h101,wh103,wh105]<;>rfl
 have hr:(v99,c0_3)=r:=Option.some.inj h
 subst hr
 rw[zc (show pr.fns 114=some c114 from rfl) (by simp)]
 simp only[go_sem,seval,c114,jz h2,wh4,jz h6,wh8,jz h10,jz h12,wh14,h15,W53 h62,h63,wh86,h87,W53 h98,wh100,h101]<;>rfl
def f115 (a1:ql)(c0_0:Int)(c0_1:Option (List qj))(c0_2:Option (List qk))(c0_3:Option (List qe)):Option (Int×(Option (List qj))):=
 jy (zz (a1.names.getD []) 0) fun v1=>
 jy (f72 (⟨c0_0,c0_1,c0_2,c0_3⟩) v1) fun v3=>
 jy (zz (c0_1.getD []) v3) fun v5=>
 cond v5.held
  (some (34,c0_1))
  (jy (jfo c0_1 v3) fun v8=>
  some (0,v8))
theorem zbg {a1:ql}{c0_0:Int}{c0_1:Option (List qj)}{c0_2:Option (List qk)}{c0_3:Option (List qe)}{x1:qr}{x2:qr}{x3:qr}{r}(h:f115 a1 c0_0 c0_1 c0_2 c0_3=some r):zj pr (X pr) 115 [.ptr 0 0,.agg [Iv a1.number,.str a1.kind,sl 1 yc a1.names,sl 1 yb a1.values,.str a1.text]] [.cells [(Iv c0_0,false),(sl 5 zg c0_1,false),(sl 4 za c0_2,false),(sl 8 vun c0_3,false)],x1,x2,x3]=some (Iv r.1,false,[.cells [(Iv c0_0,false),(sl 5 zg r.2,false),(sl 4 za c0_2,false),(sl 8 vun c0_3,false)],x1,x2,x3]):=by
 unfold f115 at h
 obtain⟨v1,h2,h⟩:=jw h
 obtain⟨v3,h4,h⟩:=jw h
 have wh4:=W72 h4
 obtain⟨v5,h6,h⟩:=jw h
 rcases jx h with⟨h7,h⟩|⟨h7,h⟩
 ·have hr:(34,c0_1)=r:=Option.some.inj h
  subst hr
  rw[zc (show pr.fns 115=some c115 from rfl) (by simp)]
  simp only[go_sem,seval,c115,jz h2,wh4,jz h6,h7]<;>rfl
 obtain⟨v8,h9,h⟩:=jw h
 have wh9:j6 pr (X pr) 185 [sl 5 zg c0_1,Iv v3,.fn (.func 198) [] []]=some (sl 5 zg v8,false):=je8 h9
 have hr:(0,v8)=r:=Option.some.inj h
 subst hr
 rw[zc (show pr.fns 115=some c115 from rfl) (by simp)]
 simp only[go_sem,seval,c115,jz h2,wh4,jz h6,h7,wh9]<;>rfl
def f116 (a1:ql)(c0_0:Int)(c0_1:Option (List qj))(c0_2:Option (List qk))(c0_3:Option (List qe)):Option (Int×(Option (List qj))):=
 jy (zz (a1.names.getD []) 0) fun v1=>
 jy (f72 (⟨c0_0,c0_1,c0_2,c0_3⟩) v1) fun v3=>
 jy (zz (c0_1.getD []) v3) fun v5=>
 cond v5.held
  (jy (jc8 c0_1 v3) fun v8=>
  some (0,v8))
  (some (20,c0_1))
theorem j9y {a1:ql}{c0_0:Int}{c0_1:Option (List qj)}{c0_2:Option (List qk)}{c0_3:Option (List qe)}{x1:qr}{x2:qr}{x3:qr}{r}(h:f116 a1 c0_0 c0_1 c0_2 c0_3=some r):zj pr (X pr) 116 [.ptr 0 0,.agg [Iv a1.number,.str a1.kind,sl 1 yc a1.names,sl 1 yb a1.values,.str a1.text]] [.cells [(Iv c0_0,false),(sl 5 zg c0_1,false),(sl 4 za c0_2,false),(sl 8 vun c0_3,false)],x1,x2,x3]=some (Iv r.1,false,[.cells [(Iv c0_0,false),(sl 5 zg r.2,false),(sl 4 za c0_2,false),(sl 8 vun c0_3,false)],x1,x2,x3]):=by
 unfold f116 at h
 obtain⟨v1,h2,h⟩:=jw h
 obtain⟨v3,h4,h⟩:=jw h
 have wh4:=W72 h4
 obtain⟨v5,h6,h⟩:=jw h
 rcases jx h with⟨h7,h⟩|⟨h7,h⟩
 ·obtain⟨v8,h9,h⟩:=jw h
  have wh9:j6 pr (X pr) 185 [sl 5 zg c0_1,Iv v3,.fn (.func 199) [] []]=some (sl 5 zg v8,false):=jd9 h9
  have hr:(0,v8)=r:=Option.some.inj h
  subst hr
  rw[zc (show pr.fns 116=some c116 from rfl) (by simp)]
  simp only[go_sem,seval,c116,jz h2,wh4,jz h6,h7,wh9]<;>rfl
 have hr:(20,c0_1)=r:=Option.some.inj h
 subst hr
 rw[zc (show pr.fns 116=some c116 from rfl) (by simp)]
 simp only[go_sem,seval,c116,jz h2,wh4,jz h6,h7]<;>rfl
def f118 (a1:ql)(c0_0:Int)(c0_1:Option (List qj))(c0_2:Option (List qk))(c0_3:Option (List qe)):Option (Int×(Option (List qe))):=
 jy (zz (a1.names.getD []) 0) fun v1=>
 jy (f93 (⟨c0_0,c0_1,c0_2,c0_3⟩) v1) fun v3=>
 jy (zz (c0_3.getD []) v3) fun v5=>
 cond v5.shipped
  (jy (jd0 c0_3 v3) fun v8=>
  some (0,v8))
  (some (20,c0_3))
theorem j74 {a1:ql}{c0_0:Int}{c0_1:Option (List qj)}{c0_2:Option (List qk)}{c0_3:Option (List qe)}{x1:qr}{x2:qr}{x3:qr}{r}(h:f118 a1 c0_0 c0_1 c0_2 c0_3=some r):zj pr (X pr) 118 [.ptr 0 0,.agg [Iv a1.number,.str a1.kind,sl 1 yc a1.names,sl 1 yb a1.values,.str a1.text]] [.cells [(Iv c0_0,false),(sl 5 zg c0_1,false),(sl 4 za c0_2,false),(sl 8 vun c0_3,false)],x1,x2,x3]=some (Iv r.1,false,[.cells [(Iv c0_0,false),(sl 5 zg c0_1,false),(sl 4 za c0_2,false),(sl 8 vun r.2,false)],x1,x2,x3]):=by
 unfold f118 at h
 obtain⟨v1,h2,h⟩:=jw h
 obtain⟨v3,h4,h⟩:=jw h
 have wh4:=W93 h4
 obtain⟨v5,h6,h⟩:=jw h
 rcases jx h with⟨h7,h⟩|⟨h7,h⟩
 ·obtain⟨v8,h9,h⟩:=jw h
  have wh9:j6 pr (X pr) 189 [sl 8 vun c0_3,Iv v3,.fn (.func 201) [] []]=some (sl 8 vun v8,false):=jb6 h9
  have hr:(0,v8)=r:=Option.some.inj h
  subst hr
  rw[zc (show pr.fns 118=some c118 from rfl) (by simp)]
  simp only[go_sem,seval,c118,jz h2,wh4,jz h6,h7,wh9]<;>rfl
 have hr:(20,c0_3)=r:=Option.some.inj h
 subst hr
 rw[zc (show pr.fns 118=some c118 from rfl) (by simp)]
 simp only[go_sem,seval,c118,jz h2,wh4,jz h6,h7]<;>rfl
end Go.Z
namespace Go.Z
open Go Go.Abs Go.W
def f111 (a1:ql)(c0_0:Int)(c0_1:Option (List qj))(c0_2:Option (List qk))(c0_3:Option (List qe)):Option (Int×(Option (List qj))×(Option (List qe))):=
 jy (zz (a1.names.getD []) 0) fun v1=>
 jy (f93 (⟨c0_0,c0_1,c0_2,c0_3⟩) v1) fun v3=>
 jy (zz (a1.names.getD []) 1) fun v5=>
 jy (f72 (⟨c0_0,c0_1,c0_2,c0_3⟩) v5) fun v7=>
 jy (zz (a1.values.getD []) 1) fun v9=>
 jy (zz (c0_3.getD []) v3) fun v11=>
 jy (zz (c0_1.getD []) v7) fun v13=>
 jy (f134 (⟨c0_0,c0_1,c0_2,c0_3⟩) v11) fun v15=>
 jy (qx7 v15.needs v13) fun v17=>
 jy (f53 v11.shipped 21) fun v19=>
 jy (f53 (decide (v9=0)) 3) fun v21=>
 jy (f53 v13.held 34) fun v23=>
 jy (f53 (!v17) 7) fun v25=>
 jy (f53 (decide (v13.left<v9)) 4) fun v27=>
 jy (f51 (some [v19,v21,v23,v25,v27])) fun v29=>
 cond (decide (v29=0))
  (jy (jcd c0_1 v7 v9) fun v32=>
  jy (f188 v11.uses v13) fun v34=>
  cond (decide (0≤v34))
   (jy (zz (v11.uses.getD []) v34) fun v37=>
   jy (chO c0_3 v3 (qzv ⟨v13.name,j8 .i64 (v9+v37.n)⟩ v13)) fun us=>some (v29,v32,us))
   (jy (chO c0_3 v3 (qzv ⟨v13.name,v9⟩ v13)) fun us=>some (v29,v32,us)))
  (some (v29,c0_1,c0_3))
theorem j7i {a1:ql}{c0_0:Int}{c0_1:Option (List qj)}{c0_2:Option (List qk)}{c0_3:Option (List qe)}{x1 x2 x3:qr}{r}(h:f111 a1 c0_0 c0_1 c0_2 c0_3=some r):
  (r.1≠0∧r.2=(c0_1,c0_3)∧zj pr (X pr) 111 [.ptr 0 0,.agg [Iv a1.number,.str a1.kind,sl 1 yc a1.names,sl 1 yb a1.values,.str a1.text]] [.cells [(Iv c0_0,false),(sl 5 zg c0_1,false),(sl 4 za c0_2,false),(sl 8 vun c0_3,false)],x1,x2,x3]=some (Iv r.1,false,[.cells [(Iv c0_0,false),(sl 5 zg c0_1,false),(sl 4 za c0_2,false),(sl 8 vun c0_3,false)],x1,x2,x3])) ∨
  (r.1=0∧∃(n:Nat) (b:qr) (cs:List (qa×Bool)),zj pr (X pr) 111 [.ptr 0 0,.agg [Iv a1.number,.str a1.kind,sl 1 yc a1.names,sl 1 yb a1.values,.str a1.text]] [.cells [(Iv c0_0,false),(sl 5 zg c0_1,false),(sl 4 za c0_2,false),(sl 8 vun c0_3,false)],x1,x2,x3]=some (Iv 0,false,[.cells [(Iv c0_0,false),(sl 5 zg r.2.1,false),(sl 4 za c0_2,false),(.ms 5 0 n,false)],x1,x2,x3,b,.cells cs])∧cs.map (·.1)=kc vun (r.2.2.getD [])∧n=(r.2.2.getD []).length∧0<n):=by
 unfold f111 at h
 obtain⟨v1,h2,h⟩:=jw h
 obtain⟨v3,h4,h⟩:=jw h
 have wh4:=W93 h4
 obtain⟨v5,h6,h⟩:=jw h
 obtain⟨v7,h8,h⟩:=jw h
 have wh8:=W72 h8
 obtain⟨v9,h10,h⟩:=jw h
 obtain⟨v11,h12,h⟩:=jw h
 obtain⟨v13,h14,h⟩:=jw h
 obtain⟨v15,h16,h⟩:=jw h
 have wh16:=q7c h16
 obtain⟨v17,h18,h⟩:=jw h
 have wh18:j6 pr (X pr) 168 [sl 2 vsi v15.needs,.fn (.func 184) [] [.vptr (.agg [.str v13.name,.str v13.kind,Iv v13.count,Iv v13.left,.bool v13.held])]]=some (.bool v17,false):=jxp h18
 obtain⟨v19,h20,h⟩:=jw h
 have wh20:=W53 h20
 obtain⟨v21,h22,h⟩:=jw h
 have wh22:=W53 h22
 obtain⟨v23,h24,h⟩:=jw h
 have wh24:=W53 h24
 obtain⟨v25,h26,h⟩:=jw h
 have wh26:=W53 h26
 obtain⟨v27,h28,h⟩:=jw h
 have wh28:=W53 h28
 obtain⟨v29,h30,h⟩:=jw h
 have wh30:j6 pr (X pr) 51 [.list false 1 [Iv v19,Iv v21,Iv v23,Iv v25,Iv v27]]=some (Iv v29,false):=W51 h30
 rcases jx h with⟨h31,h⟩|⟨h31,h⟩
 ·obtain⟨v32,h33,h⟩:=jw h
  have wh33:j6 pr (X pr) 185 [sl 5 zg c0_1,Iv v7,.fn (.func 186) [] [.vptr (Iv v9)]]=some (sl 5 zg v32,false):=jcn h33
  obtain⟨v34,h35,h⟩:=jw h
  have wh35:j6 pr (X pr) 188 [sl 2 vsi v11.uses,.fn (.func 187) [] [.vptr (.agg [.str v13.name,.str v13.kind,Iv v13.count,Iv v13.left,.bool v13.held])]]=some (Iv v34,false):=jkk h35
  rcases jx h with⟨h36,h⟩|⟨h36,h⟩
  ·obtain⟨v37,h38,h⟩:=jw h
   obtain⟨us,hu,h⟩:=jw h
   cases h
   obtain⟨n,x,y,rfl,hl,hx,hy,rfl⟩:=qgz hu
   obtain⟨cs,g1,g2⟩:=jmo (b0:=.cells [(Iv c0_0,false),(sl 5 zg v32,false),(sl 4 za c0_2,false),(sl 8 vun c0_3,false)]) (b1:=x1) (b2:=x2) (b3:=x3) hx hy
   have w:=jgb hl (List.getElem?_eq_some_iff.1 hx).1 g1
   simp only[q0r]at w
   refine .inr ⟨of_decide_eq_true h31,(c0_3.getD []).length,.cells [(.str v13.name,false),(Iv (j8 .i64 (v9+v37.n)),false)],cs,?_,g2,by simp,by have:=(List.getElem?_eq_some_iff.1 hx).1;omega⟩
   rw[zc (show pr.fns 111=some c111 from rfl) (by simp)]
   simp only[go_sem,seval,c111,jz h2,wh4,jz h6,wh8,jz h10,jz h12,jz h14,wh16,wh18,wh20,wh22,wh24,wh26,wh28,wh30,h31,wh33,wh35,h36,jz h38,w,(show ∀n,below 5 (.ms 5 0 n)=false from fun _=>rfl),Bool.false_and,cF]
  ·obtain⟨us,hu,h⟩:=jw h
   cases h
   obtain⟨n,x,y,rfl,hl,hx,hy,rfl⟩:=qgz hu
   obtain⟨cs,g1,g2⟩:=jmo (b0:=.cells [(Iv c0_0,false),(sl 5 zg v32,false),(sl 4 za c0_2,false),(sl 8 vun c0_3,false)]) (b1:=x1) (b2:=x2) (b3:=x3) hx hy
   have w:=jgb hl (List.getElem?_eq_some_iff.1 hx).1 g1
   simp only[q0r]at w
   refine .inr ⟨of_decide_eq_true h31,(c0_3.getD []).length,.cells [(.str v13.name,false),(Iv v9,false)],cs,?_,g2,by simp,by have:=(List.getElem?_eq_some_iff.1 hx).1;omega⟩
   rw[zc (show pr.fns 111=some c111 from rfl) (by simp)]
   simp only[go_sem,seval,c111,jz h2,wh4,jz h6,wh8,jz h10,jz h12,jz h14,wh16,wh18,wh20,wh22,wh24,wh26,wh28,wh30,h31,wh33,wh35,h36,w,(show ∀n,below 5 (.ms 5 0 n)=false from fun _=>rfl),Bool.false_and,cF]
 ·cases h
  refine .inl ⟨of_decide_eq_false h31,rfl,?_⟩
  rw[zc (show pr.fns 111=some c111 from rfl) (by simp)]
  simp only[go_sem,seval,c111,jz h2,wh4,jz h6,wh8,jz h10,jz h12,jz h14,wh16,wh18,wh20,wh22,wh24,wh26,wh28,wh30,h31]<;>rfl
end Go.Z
end
