/- Chapter 4. -/
import Derived.Test.YtnjngdcbkkonnaaGreatDoorA4
set_option linter.unusedVariables false
set_option linter.unusedSimpArgs false
set_option maxRecDepth 100000
set_option maxHeartbeats 4000000
noncomputable section
namespace Go.Z
open Go Go.Abs
def f132 (a0:qr)(a1:qh)(c0_0:Int)(c0_1:Int):Option ((qh×Int)):=
 cond (decide (a0.m0=0)&&decide (a0.m1=0))
  (some (⟨0,0⟩,17))
  (j5 (f175 a1) fun v2=>
  j5 (f175 (⟨a0.m0,a0.m1⟩)) fun v4=>
  j5 (f174 v2 v4) fun v6=>
  some (v6,0))
theorem j1p {a0:qr}{a1:qh}{c0_0:Int}{c0_1:Int}{r}(h:f132 a0 a1 c0_0 c0_1=some r):yk pr (X pr) 132 [.agg [Iv a0.m0,Iv a0.m1,Iv a0.m2,Iv a0.m3,Iv a0.m4,Iv a0.m5,Iv a0.m6,Iv a0.m7],.agg [Iv a1.num,Iv a1.den]] [.cells [(Iv c0_0,false),(Iv c0_1,false)]]=some (.tup [.agg [Iv r.1.num,Iv r.1.den],Iv r.2],false,[.cells [(Iv c0_0,false),(Iv c0_1,false)],.cells [(Iv r.1.num,false),(Iv r.1.den,false)]]):=by
 unfold f132 at h
 rcases j0 h with⟨h1,h⟩|⟨h1,h⟩
 ·have hr:(⟨0,0⟩,17)=r:=Option.some.inj h
  subst hr
  rw[qak (show pr.fns 132=some c132 from rfl) (by simp)]
  simp only[go_sem,seval,c132,h1]<;>rfl
 obtain⟨v2,h3,h⟩:=jz h
 have wh3:=jmc h3
 obtain⟨v4,h5,h⟩:=jz h
 have wh5:=jmc h5
 obtain⟨v6,h7,h⟩:=jz h
 have hr:(v6,0)=r:=Option.some.inj h
 subst hr
 rw[qak (show pr.fns 132=some c132 from rfl) (by simp)]
 simp only[go_sem,seval,c132,h1,wh3,wh5,j07 h7]<;>rfl
def f131 (a0:TE)(a1:Int):Option (qh×Int):=
 j5 (f158 a0) fun v1=>
 j5 (f172 a1) fun v3=>
 j5 (f171 (some [v1,v3])) fun v5=>
 cond (decide (v5=0))
  (j5 (f173 a0 a1) fun v8=>
  j5 (f132 v8.1 v8.2 0 0) fun v10=>
  some (v10.1,v10.2))
  (some (⟨0,0⟩,v5))
theorem j3l {a0:TE}{a1:Int}{r}(h:f131 a0 a1=some r):j7 pr (X pr) 131 [sl 3 vel a0,Iv a1,.fn (.func 132) [] []]=some (.tup [.agg [Iv r.1.num,Iv r.1.den],Iv r.2],false):=by
 unfold f131 at h
 obtain⟨v1,h2,h⟩:=jz h
 obtain⟨v3,h4,h⟩:=jz h
 obtain⟨v5,h6,h⟩:=jz h
 have wh6:j7 pr (X pr) 171 [.list false 1 [Iv v1,Iv v3]]=some (Iv v5,false):=qsr h6
 rcases j0 h with⟨h7,h⟩|⟨h7,h⟩
 ·obtain⟨v8,h9,h⟩:=jz h
  obtain⟨v10,h11,h⟩:=jz h
  have wh11:yk pr (X pr) 132 [.agg [Iv v8.1.m0,Iv v8.1.m1,Iv v8.1.m2,Iv v8.1.m3,Iv v8.1.m4,Iv v8.1.m5,Iv v8.1.m6,Iv v8.1.m7],.agg [Iv v8.2.num,Iv v8.2.den]] [.cells [(Iv 0,false),(Iv 0,false)]]=some (.tup [.agg [Iv v10.1.num,Iv v10.1.den],Iv v10.2],false,[.cells [(Iv 0,false),(Iv 0,false)],.cells [(Iv v10.1.num,false),(Iv v10.1.den,false)]]):=j1p h11
  obtain rfl:=oi h
  refine zg c131 ?_
  simp only[go_sem,seval,c131,q88 h2,jlw h4,wh6,h7,j0d h9,wh11]
  exact⟨_,rfl⟩
 obtain rfl:=oi h
 refine zg c131 ?_
 simp only[go_sem,seval,c131,q88 h2,jlw h4,wh6,h7]
 exact⟨_,rfl⟩
def f57 (a0:TE)(a1:Int):Option (qh×Int):=
 j5 (f131 a0 a1) fun v1=>
 some (v1.1,v1.2)
theorem W57 {a0:TE}{a1:Int}{r}(h:f57 a0 a1=some r):j7 pr (X pr) 57 [sl 3 vel a0,Iv a1]=some (.tup [.agg [Iv r.1.num,Iv r.1.den],Iv r.2],false):=by
 unfold f57 at h
 obtain⟨v1,h2,h⟩:=jz h
 have wh2:j7 pr (X pr) 131 [sl 3 vel a0,Iv a1,.fn (.func 132) [] []]=some (.tup [.agg [Iv v1.1.num,Iv v1.1.den],Iv v1.2],false):=j3l h2
 obtain rfl:=oi h
 refine zg c57 ?_
 simp only[go_sem,seval,c57,wh2]
 exact⟨_,rfl⟩
def f165 (a0:Int)(a1:Int):Option (Int×Int):=
 j5 (qsd .u64 a0 32) fun v1=>
 j5 (qsd .u64 a1 32) fun v3=>
 j5 (qsd .u64 (za .u64 ((qqm .and .u64 a0 4294967295)*(qqm .and .u64 a1 4294967295))) 32) fun v5=>
 j5 (qsd .u64 (za .u64 ((za .u64 (v1*(qqm .and .u64 a1 4294967295)))+v5)) 32) fun v7=>
 j5 (qsd .u64 (za .u64 ((qqm .and .u64 (za .u64 ((za .u64 (v1*(qqm .and .u64 a1 4294967295)))+v5)) 4294967295)+(za .u64 ((qqm .and .u64 a0 4294967295)*v3)))) 32) fun v9=>
 some (za .u64 ((za .u64 ((za .u64 (v1*v3))+v7))+v9),za .u64 (a0*a1))
theorem jkp {a0:Int}{a1:Int}{r}(h:f165 a0 a1=some r):j7 pr (X pr) 165 [.int .u64 a0,.int .u64 a1]=some (.tup [.int .u64 r.1,.int .u64 r.2],false):=by
 unfold f165 at h
 obtain⟨v1,h2,h⟩:=jz h
 obtain⟨v3,h4,h⟩:=jz h
 obtain⟨v5,h6,h⟩:=jz h
 obtain⟨v7,h8,h⟩:=jz h
 obtain⟨v9,h10,h⟩:=jz h
 obtain rfl:=oi h
 refine zg c165 ?_
 simp only[go_sem,seval,c165,qny h2,qny h4,qny h6,qny h8,qny h10]
 exact⟨_,rfl⟩
def f127 (a0:qh)(a1:qh):Option Bool:=
 j5 (f165 (za .u64 a0.num) (za .u64 a1.den)) fun v1=>
 j5 (f165 (za .u64 a1.num) (za .u64 a0.den)) fun v3=>
 cond (decide (v3.1<v1.1))
  (some true)
  (cond (decide (v1.1=v3.1))
   (some (decide (v3.2<v1.2)))
   (some false))
theorem jcj {a0:qh}{a1:qh}{r}(h:f127 a0 a1=some r):j7 pr (X pr) 127 [.agg [Iv a0.num,Iv a0.den],.agg [Iv a1.num,Iv a1.den]]=some (.bool r,false):=by
 unfold f127 at h
 obtain⟨v1,h2,h⟩:=jz h
 have wh2:=jkp h2
 obtain⟨v3,h4,h⟩:=jz h
 have wh4:=jkp h4
 rcases j0 h with⟨h5,h⟩|⟨h5,h⟩
 ·obtain rfl:=oi h
  refine zg c127 ?_
  simp only[go_sem,seval,c127,wh2,wh4,h5]
  exact⟨_,rfl⟩
 rcases j0 h with⟨h6,h⟩|⟨h6,h⟩
 ·obtain rfl:=oi h
  refine zg c127 ?_
  simp only[go_sem,seval,c127,wh2,wh4,h5,h6]
  exact⟨_,rfl⟩
 obtain rfl:=oi h
 refine zg c127 ?_
 simp only[go_sem,seval,c127,wh2,wh4,h5,h6]
 exact⟨_,rfl⟩
def qpv (a0:TE)(a1:Int)(s0:Int×Int×Int×Int×Int×Int×Int×Int×Int):Option ((Int×Int×Int×Int×Int×Int×Int×Int×Int)⊕((Int×Int×Int×Int×Int×Int×Int×Int×Int))):=
 cond (decide (s0.1<((a0.getD []).length:Int)))
  (j5 (yd (a0.getD []) s0.1) fun v24=>
  j5 (f167 v24 a1) fun v26=>
  j5 (f170 v24.kind v26) fun v28=>
  j5 (f169 (⟨s0.2.1,s0.2.2.1,s0.2.2.2.1,s0.2.2.2.2.1,s0.2.2.2.2.2.1,s0.2.2.2.2.2.2.1,s0.2.2.2.2.2.2.2.1,s0.2.2.2.2.2.2.2.2⟩) v28) fun v30=>
  some (.inl (za .i64 (s0.1+1),v30.m0,v30.m1,v30.m2,v30.m3,v30.m4,v30.m5,v30.m6,v30.m7)))
  (some (.inr (s0.1,s0.2.1,s0.2.2.1,s0.2.2.2.1,s0.2.2.2.2.1,s0.2.2.2.2.2.1,s0.2.2.2.2.2.2.1,s0.2.2.2.2.2.2.2.1,s0.2.2.2.2.2.2.2.2)))
def qou (a0:TE)(a1:Int)(s0:Int×Int×Int×Int×Int×Int×Int×Int×Int):qc:=⟨[(0,sl 3 vel a0,false),(1,Iv a1,false),(4,.ptr 0 0,false),(5,.ptr 1 0,false),(6,Iv s0.1,false)],[.cells [(Iv 0,false),(Iv 0,false),(Iv 0,false),(Iv 0,false),(Iv 0,false),(Iv 0,false),(Iv 0,false),(Iv 0,false)],.cells [(Iv s0.2.1,false),(Iv s0.2.2.1,false),(Iv s0.2.2.2.1,false),(Iv s0.2.2.2.2.1,false),(Iv s0.2.2.2.2.2.1,false),(Iv s0.2.2.2.2.2.2.1,false),(Iv s0.2.2.2.2.2.2.2.1,false),(Iv s0.2.2.2.2.2.2.2.2,false)]]⟩
def qt8 (a0:TE)(a1:Int)(d:(Int×Int×Int×Int×Int×Int×Int×Int×Int)):qi×qc:=(.exit 0,⟨[(0,sl 3 vel a0,false),(1,Iv a1,false),(4,.ptr 0 0,false),(5,.ptr 1 0,false),(6,Iv d.1,false),(15,.bool false,false)],[.cells [(Iv 0,false),(Iv 0,false),(Iv 0,false),(Iv 0,false),(Iv 0,false),(Iv 0,false),(Iv 0,false),(Iv 0,false)],.cells [(Iv d.2.1,false),(Iv d.2.2.1,false),(Iv d.2.2.2.1,false),(Iv d.2.2.2.2.1,false),(Iv d.2.2.2.2.2.1,false),(Iv d.2.2.2.2.2.2.1,false),(Iv d.2.2.2.2.2.2.2.1,false),(Iv d.2.2.2.2.2.2.2.2,false)]]⟩)
theorem jjr (a0:TE)(a1:Int)(s0:Int×Int×Int×Int×Int×Int×Int×Int×Int)(r)(h:qpv a0 a1 s0=some r):yh pr qta (qou a0 a1) (qt8 a0 a1) s0 r:=by
 unfold qpv at h
 rcases j0 h with⟨h23,h⟩|⟨h23,h⟩
 ·obtain⟨v24,h25,h⟩:=jz h
  obtain⟨v26,h27,h⟩:=jz h
  have wh27:=jmz h27
  obtain⟨v28,h29,h⟩:=jz h
  have wh29:=j3r h29
  obtain⟨v30,h31,h⟩:=jz h
  have wh31:=jzs h31
  cases h
  exact zp (by simp only[go_sem,seval,qta,qou,h23,zf h25,wh27,wh29,wh31]<;>rfl)
 cases h
 exact j8 (by simp only[go_sem,seval,qta,qou,h23,qt8]<;>rfl)
theorem jl0 (a0:TE)(a1:Int){s0:Int×Int×Int×Int×Int×Int×Int×Int×Int}{d}(h:itO (qpv a0 a1) s0=some d):X pr (.loop qta) (qou a0 a1 s0)=some (qt8 a0 a1 d):=yo (jjr a0 a1) (fun d hh=>by cases hh) h
def f129 (a0:TE)(a1:Int):Option qr:=
 j5 (f166) fun v1=>
 j5 (f168) fun v3=>
 j5 (itO (qpv a0 a1) (0,v1.num,v1.den,v3.num,v3.den,v3.num,v3.den,v1.num,v1.den)) fun d32=>
 some (⟨d32.2.1,d32.2.2.1,d32.2.2.2.1,d32.2.2.2.2.1,d32.2.2.2.2.2.1,d32.2.2.2.2.2.2.1,d32.2.2.2.2.2.2.2.1,d32.2.2.2.2.2.2.2.2⟩)
theorem j3f {a0:TE}{a1:Int}{r}(h:f129 a0 a1=some r):j7 pr (X pr) 129 [sl 3 vel a0,Iv a1]=some (.agg [Iv r.m0,Iv r.m1,Iv r.m2,Iv r.m3,Iv r.m4,Iv r.m5,Iv r.m6,Iv r.m7],false):=by
 unfold f129 at h
 obtain⟨v1,h2,h⟩:=jz h
 obtain⟨v3,h4,h⟩:=jz h
 obtain⟨d32,h33,h⟩:=jz h
 have wh33:=jl0 a0 a1 h33
 dsimp only[qou,qt8]at wh33
 obtain rfl:=oi h
 refine zg c129 ?_
 simp only[go_sem,seval,c129,qyt h2,qv5 h4,wh33]
 exact⟨_,rfl⟩
def qoy (a0:TE)(a1:Int)(s0:Int×Int×Int):Option ((Int×Int×Int)⊕((Int×Int×Int))):=
 cond (decide (s0.1<((a0.getD []).length:Int)))
  (j5 (yd (a0.getD []) s0.1) fun v24=>
  j5 (f55 v24.kind) fun v26=>
  cond v26
   (j5 (f167 v24 a1) fun v29=>
   j5 (f63 (⟨s0.2.1,s0.2.2⟩) v29) fun v31=>
   some (.inl (za .i64 (s0.1+1),v31.num,v31.den)))
   (some (.inl (za .i64 (s0.1+1),s0.2.1,s0.2.2))))
  (some (.inr (s0.1,s0.2.1,s0.2.2)))
def qkn (a0:TE)(a1:Int)(s0:Int×Int×Int):qc:=⟨[(0,sl 3 vel a0,false),(1,Iv a1,false),(4,.ptr 0 0,false),(5,.ptr 1 0,false),(6,Iv s0.1,false)],[.cells [(Iv 0,false),(Iv 0,false)],.cells [(Iv s0.2.1,false),(Iv s0.2.2,false)]]⟩
def qva (a0:TE)(a1:Int)(d:(Int×Int×Int)):qi×qc:=(.exit 0,⟨[(0,sl 3 vel a0,false),(1,Iv a1,false),(4,.ptr 0 0,false),(5,.ptr 1 0,false),(6,Iv d.1,false),(11,.bool false,false)],[.cells [(Iv 0,false),(Iv 0,false)],.cells [(Iv d.2.1,false),(Iv d.2.2,false)]]⟩)
theorem jjk (a0:TE)(a1:Int)(s0:Int×Int×Int)(r)(h:qoy a0 a1 s0=some r):yh pr qpt (qkn a0 a1) (qva a0 a1) s0 r:=by
 unfold qoy at h
 rcases j0 h with⟨h23,h⟩|⟨h23,h⟩
 ·obtain⟨v24,h25,h⟩:=jz h
  obtain⟨v26,h27,h⟩:=jz h
  have wh27:=W55 h27
  rcases j0 h with⟨h28,h⟩|⟨h28,h⟩
  ·obtain⟨v29,h30,h⟩:=jz h
   have wh30:=jmz h30
   obtain⟨v31,h32,h⟩:=jz h
   have wh32:=W63 h32
   cases h
   exact zp (by simp only[go_sem,seval,qpt,qkn,h23,zf h25,wh27,h28,wh30,wh32]<;>rfl)
  cases h
  exact zp (by simp only[go_sem,seval,qpt,qkn,h23,zf h25,wh27,h28]<;>rfl)
 cases h
 exact j8 (by simp only[go_sem,seval,qpt,qkn,h23,qva]<;>rfl)
theorem jm4 (a0:TE)(a1:Int){s0:Int×Int×Int}{d}(h:itO (qoy a0 a1) s0=some d):X pr (.loop qpt) (qkn a0 a1 s0)=some (qva a0 a1 d):=yo (jjk a0 a1) (fun d hh=>by cases hh) h
def f128 (a0:TE)(a1:Int):Option qh:=
 j5 (f166) fun v1=>
 j5 (itO (qoy a0 a1) (0,v1.num,v1.den)) fun d33=>
 some (⟨d33.2.1,d33.2.2⟩)
theorem jy9 {a0:TE}{a1:Int}{r}(h:f128 a0 a1=some r):j7 pr (X pr) 128 [sl 3 vel a0,Iv a1]=some (.agg [Iv r.num,Iv r.den],false):=by
 unfold f128 at h
 obtain⟨v1,h2,h⟩:=jz h
 obtain⟨d33,h34,h⟩:=jz h
 have wh34:=jm4 a0 a1 h34
 dsimp only[qkn,qva]at wh34
 obtain rfl:=oi h
 refine zg c128 ?_
 simp only[go_sem,seval,c128,qyt h2,wh34]
 exact⟨_,rfl⟩
def F58 (rec:qh→qh→Option Bool)(a0:qh)(a1:qh):Option Bool:=
 j5 (qey .i64 a0.num a0.den) fun v1=>
 j5 (qey .i64 a1.num a1.den) fun v3=>
 cond (decide (v1=v3))
  (j5 (qmd a0.num a0.den) fun v6=>
  j5 (qmd a1.num a1.den) fun v8=>
  cond (decide (v6=0))
   (some (!decide (v8=0)))
   (cond (decide (v8=0))
    (some false)
    (j5 (rec (⟨a1.den,v8⟩) (⟨a0.den,v6⟩)) fun v12=>
    some v12)))
  (some (decide (v1<v3)))
theorem j1u {rec:qh→qh→Option Bool}(hrec:∀ {a0:qh} {a1:qh} {r},rec a0 a1=some r→j7 pr (X pr) 58 [.agg [Iv a0.num,Iv a0.den],.agg [Iv a1.num,Iv a1.den]]=some (.bool r,false)){a0:qh}{a1:qh}{r}(h:F58 rec a0 a1=some r):j7 pr (X pr) 58 [.agg [Iv a0.num,Iv a0.den],.agg [Iv a1.num,Iv a1.den]]=some (.bool r,false):=by
 unfold F58 at h
 obtain⟨v1,h2,h⟩:=jz h
 obtain⟨v3,h4,h⟩:=jz h
 rcases j0 h with⟨h5,h⟩|⟨h5,h⟩
 ·obtain⟨v6,h7,h⟩:=jz h
  obtain⟨v8,h9,h⟩:=jz h
  rcases j0 h with⟨h10,h⟩|⟨h10,h⟩
  ·obtain rfl:=oi h
   refine zg c58 ?_
   simp only[go_sem,seval,c58,qaz h2,qaz h4,h5,qeo h7,qeo h9,h10]
   exact⟨_,rfl⟩
  rcases j0 h with⟨h11,h⟩|⟨h11,h⟩
  ·obtain rfl:=oi h
   refine zg c58 ?_
   simp only[go_sem,seval,c58,qaz h2,qaz h4,h5,qeo h7,qeo h9,h10,h11]
   exact⟨_,rfl⟩
  obtain⟨v12,h13,h⟩:=jz h
  have wh13:=hrec h13
  obtain rfl:=oi h
  refine zg c58 ?_
  simp only[go_sem,seval,c58,qaz h2,qaz h4,h5,qeo h7,qeo h9,h10,h11,wh13]
  exact⟨_,rfl⟩
 obtain rfl:=oi h
 refine zg c58 ?_
 simp only[go_sem,seval,c58,qaz h2,qaz h4,h5]
 exact⟨_,rfl⟩
def f58:Nat→qh→qh→Option Bool
 |0=>fun _ _=>none
 |n+1=>F58 (f58 n)
theorem W58:∀ (n:Nat) {a0:qh} {a1:qh} {r} (h:f58 n a0 a1=some r),j7 pr (X pr) 58 [.agg [Iv a0.num,Iv a0.den],.agg [Iv a1.num,Iv a1.den]]=some (.bool r,false)
 |0,_,_,_,h=>by cases h
 |n+1,_,_,_,h=>j1u (W58 n) h
def f199 (a0:qh)(a1:qh):Option (jc×Int):=
 j5 (f168) fun v1=>
 cond (decide (a1.num=v1.num)&&decide (a1.den=v1.den))
  (some (⟨0,0,0,0⟩,17))
  (some (⟨a0.num,a0.den,a1.num,a1.den⟩,0))
theorem j27 {a0:qh}{a1:qh}{r}(h:f199 a0 a1=some r):j7 pr (X pr) 199 [.agg [Iv a0.num,Iv a0.den],.agg [Iv a1.num,Iv a1.den]]=some (.tup [.agg [Iv r.1.a,Iv r.1.b,Iv r.1.c,Iv r.1.d],Iv r.2],false):=by
 unfold f199 at h
 obtain⟨v1,h2,h⟩:=jz h
 rcases j0 h with⟨h3,h⟩|⟨h3,h⟩
 ·obtain rfl:=oi h
  refine zg c199 ?_
  simp only[go_sem,seval,c199,qv5 h2,h3]
  exact⟨_,rfl⟩
 obtain rfl:=oi h
 refine zg c199 ?_
 simp only[go_sem,seval,c199,qv5 h2,h3]
 exact⟨_,rfl⟩
def f160 (a0:TE)(a1:Int):Option (jc×Int):=
 j5 (f128 a0 a1) fun v1=>
 j5 (f129 a0 a1) fun v3=>
 j5 (f199 v1 (⟨v3.m0,v3.m1⟩)) fun v5=>
 some (v5.1,v5.2)
theorem jkc {a0:TE}{a1:Int}{r}(h:f160 a0 a1=some r):j7 pr (X pr) 160 [sl 3 vel a0,Iv a1]=some (.tup [.agg [Iv r.1.a,Iv r.1.b,Iv r.1.c,Iv r.1.d],Iv r.2],false):=by
 unfold f160 at h
 obtain⟨v1,h2,h⟩:=jz h
 obtain⟨v3,h4,h⟩:=jz h
 obtain⟨v5,h6,h⟩:=jz h
 have wh6:=j27 h6
 obtain rfl:=oi h
 refine zg c160 ?_
 simp only[go_sem,seval,c160,jy9 h2,j3f h4,wh6]
 exact⟨_,rfl⟩
def f113 (a0:TE)(a1:Int):Option (qh×Int):=
 j5 (f160 a0 a1) fun v1=>
 cond (decide (v1.2=0))
  (j5 (f130 (⟨v1.1.a,v1.1.b⟩)) fun v4=>
  j5 (f130 (⟨v1.1.c,v1.1.d⟩)) fun v6=>
  j5 (f66 v4 v6) fun v8=>
  some (v8,0))
  (some (⟨0,0⟩,v1.2))
theorem j0g {a0:TE}{a1:Int}{r}(h:f113 a0 a1=some r):j7 pr (X pr) 113 [sl 3 vel a0,Iv a1]=some (.tup [.agg [Iv r.1.num,Iv r.1.den],Iv r.2],false):=by
 unfold f113 at h
 obtain⟨v1,h2,h⟩:=jz h
 rcases j0 h with⟨h3,h⟩|⟨h3,h⟩
 ·obtain⟨v4,h5,h⟩:=jz h
  have wh5:=jj5 h5
  obtain⟨v6,h7,h⟩:=jz h
  have wh7:=jj5 h7
  obtain⟨v8,h9,h⟩:=jz h
  obtain rfl:=oi h
  refine zg c113 ?_
  simp only[go_sem,seval,c113,jkc h2,h3,wh5,wh7,W66 h9]
  exact⟨_,rfl⟩
 obtain rfl:=oi h
 refine zg c113 ?_
 simp only[go_sem,seval,c113,jkc h2,h3]
 exact⟨_,rfl⟩
def f34 (a0:Int):Option Int:=
 j5 (f40 a0 1 8) fun v1=>
 some v1
theorem W34 {a0:Int}{r}(h:f34 a0=some r):j7 pr (X pr) 34 [Iv a0]=some (Iv r,false):=by
 unfold f34 at h
 obtain⟨v1,h2,h⟩:=jz h
 obtain rfl:=oi h
 refine zg c34 ?_
 simp only[go_sem,seval,c34,W40 h2]
 exact⟨_,rfl⟩
def f32 (a0:TI):Option Int:=
 j5 (f100 a0) fun v1=>
 some v1
theorem W32 {a0:TI}{r}(h:f32 a0=some r):j7 pr (X pr) 32 [sl 1 zh a0]=some (Iv r,false):=by
 unfold f32 at h
 obtain⟨v1,h2,h⟩:=jz h
 obtain rfl:=oi h
 refine zg c32 ?_
 simp only[go_sem,seval,c32,q2y h2]
 exact⟨_,rfl⟩
def qra (a0:TE)(s0:Int):Option (Int⊕(Unit⊕Int)):=
 cond (decide (s0<((a0.getD []).length:Int)))
  (j5 (yd (a0.getD []) s0) fun v11=>
  cond (decide (60<(v11.kind.length:Int)))
   (some (.inr (.inl ())))
   (some (.inl (za .i64 (s0+1)))))
  (some (.inr (.inr s0)))
def qlg (a0:TE)(s0:Int):qc:=⟨[(0,sl 3 vel a0,false),(3,Iv s0,false)],[]⟩
def qpb (a0:TE):Unit⊕Int→qi×qc
 | .inl d=>(.ret,⟨[(2,.bool false,false)],[]⟩)
 | .inr d=>(.exit 0,⟨[(0,sl 3 vel a0,false),(3,Iv d,false),(10,.bool false,false)],[]⟩)
theorem jsv (a0:TE)(s0:Int)(r)(h:qra a0 s0=some r):yh pr qu1 (qlg a0) (qpb a0) s0 r:=by
 unfold qra at h
 rcases j0 h with⟨h10,h⟩|⟨h10,h⟩
 ·obtain⟨v11,h12,h⟩:=jz h
  rcases j0 h with⟨h13,h⟩|⟨h13,h⟩
  ·cases h
   exact j8 (by simp only[go_sem,seval,qu1,qlg,h10,zf h12,h13,qpb]<;>rfl)
  cases h
  exact zp (by simp only[go_sem,seval,qu1,qlg,h10,zf h12,h13]<;>rfl)
 cases h
 exact j8 (by simp only[go_sem,seval,qu1,qlg,h10,qpb]<;>rfl)
theorem jfo (a0:TE){s0:Int}{d}(h:itO (qra a0) s0=some d):X pr (.loop qu1) (qlg a0 s0)=some (qpb a0 d):=yo (jsv a0) (fun d=>by rcases d with d|d<;>(intro hh;cases hh)) h
def f44 (a0:TE):Option Bool:=
 cond (decide (6<((a0.getD []).length:Int)))
  (some false)
  (j5 (itO (qra a0) 0) fun d14=>match d14 with
   | .inl d16=>
    some false
   | .inr d17=>
    some true)
theorem W44 {a0:TE}{r}(h:f44 a0=some r):j7 pr (X pr) 44 [sl 3 vel a0]=some (.bool r,false):=by
 unfold f44 at h
 rcases j0 h with⟨h1,h⟩|⟨h1,h⟩
 ·obtain rfl:=oi h
  refine zg c44 ?_
  simp only[go_sem,seval,c44,h1]
  exact⟨_,rfl⟩
 obtain⟨d14,h15,h⟩:=jz h
 rcases d14 with d16|d17
 ·have wh15:=jfo a0 h15
  dsimp only[qlg,qpb]at wh15
  obtain rfl:=oi h
  refine zg c44 ?_
  simp only[go_sem,seval,c44,h1,wh15]
  exact⟨_,rfl⟩
 have wh15:=jfo a0 h15
 dsimp only[qlg,qpb]at wh15
 obtain rfl:=oi h
 refine zg c44 ?_
 simp only[go_sem,seval,c44,h1,wh15]
 exact⟨_,rfl⟩
def qq7 (a0:TE)(s0:TE×Int×Bool):Option ((TE×Int×Bool)⊕((TE×Bool×Int))):=
 cond (decide (s0.2.1<((a0.getD []).length:Int)))
  (j5 (yd (a0.getD []) s0.2.1) fun v14=>
  cond s0.2.2
   (j5 (apO s0.1 [v14]) fun v17=>
   some (.inl (v17,za .i64 (s0.2.1+1),true)))
   (cond s0.1.isNone
    (j5 (apO s0.1 [v14]) fun v20=>
    some (.inl (v20,za .i64 (s0.2.1+1),true)))
    (none)))
  (some (.inr (s0.1,s0.2.2,s0.2.1)))
def qf2 (a0:TE)(s0:TE×Int×Bool):qc:=⟨[(3,sl 3 vel s0.1,s0.2.2),(6,sl 3 vel a0,false),(7,Lv a0,false),(8,Iv s0.2.1,false)],[]⟩
def qxh (a0:TE)(d:(TE×Bool×Int)):qi×qc:=(.exit 0,⟨[(3,sl 3 vel d.1,d.2.1),(6,sl 3 vel a0,false),(7,Lv a0,false),(8,Iv d.2.2,false),(9,.bool false,false)],[]⟩)
theorem jp5 (a0:TE)(s0:TE×Int×Bool)(r)(h:qq7 a0 s0=some r):yh pr qtx (qf2 a0) (qxh a0) s0 r:=by
 unfold qq7 at h
 rcases j0 h with⟨h13,h⟩|⟨h13,h⟩
 ·obtain⟨v14,h15,h⟩:=jz h
  rcases j0 h with⟨h16,h⟩|⟨h16,h⟩
  ·obtain⟨v17,h18,h⟩:=jz h
   cases h
   exact ko (by simp only[go_sem,seval,qtx,qf2,h13,zf h15,h16,qch h18];exact⟨_,rfl⟩) rfl (by first|simp only[go_sem,seval,qf2]|rfl) (by first|simp only[go_sem,seval,qf2]|rfl)
  rcases j0 h with⟨h19,h⟩|⟨h19,h⟩
  ·obtain⟨v20,h21,h⟩:=jz h
   cases h
   exact ko (by simp only[go_sem,seval,qtx,qf2,h13,zf h15,h16,h19,qjg h21 h19];exact⟨_,rfl⟩) rfl (by first|simp only[go_sem,seval,qf2]|rfl) (by first|simp only[go_sem,seval,qf2]|rfl)
  cases h
 cases h
 exact j8 (by simp only[go_sem,seval,qtx,qf2,h13,qxh]<;>rfl)
theorem jts (a0:TE){s0:TE×Int×Bool}{d}(h:itO (qq7 a0) s0=some d):X pr (.loop qtx) (qf2 a0 s0)=some (qxh a0 d):=yo (jp5 a0) (fun d hh=>by cases hh) h
def f46 (a0:TE):Option (TE×Bool):=
 j5 (itO (qq7 a0) (none,0,false)) fun d22=>
 some (d22.1,d22.2.1)
theorem W46 {a0:TE}{r}(h:f46 a0=some r):j7 pr (X pr) 46 [sl 3 vel a0]=some (sl 3 vel r.1,r.2):=by
 unfold f46 at h
 obtain⟨d22,h23,h⟩:=jz h
 have wh23:=jts a0 h23
 dsimp only[qf2,qxh,qc9]at wh23
 obtain rfl:=oi h
 refine qcb c46 ?_
 simp only[go_sem,seval,c46,wh23]
 exact⟨_,rfl⟩
def f198 (a0:TE):Option (TE×Bool):=
 cond a0.isNone
  (some (none,false))
  (j5 (apO (some []) (a0.getD [])) fun v2=>
  some (v2,true))
theorem jmi {a0:TE}{r}(h:f198 a0=some r):j7 pr (X pr) 198 [sl 3 vel a0]=some (sl 3 vel r.1,r.2):=by
 unfold f198 at h
 rcases j0 h with⟨h1,h⟩|⟨h1,h⟩
 ·obtain rfl:=oi h
  refine qcb c198 ?_
  simp only[go_sem,seval,c198,h1]
  exact⟨_,rfl⟩
 obtain⟨v2,h3,h⟩:=jz h
 obtain rfl:=oi h
 refine qcb c198 ?_
 simp only[go_sem,seval,c198,h1,qb6 h3]
 exact⟨_,rfl⟩
section
variable {H:zd}{b c:qv}{cs:List (qa×Bool)}{n:Nat}
theorem qk1:newBox H.length (H++[qv.hole]) 0 b=some (H++[b]):=by
 unfold newBox
 rw[Nat.add_zero,List.getElem?_append_right (Nat.le_refl _),Nat.sub_self]
 show some ((H++[qv.hole]).set H.length b)=_
 rw[List.set_append_right _ _ (Nat.le_refl _),Nat.sub_self]
 rfl
theorem qk4:(H++[b])[H.length]?=some b:=by
 rw[List.getElem?_append_right (Nat.le_refl _),Nat.sub_self];rfl
theorem qhy:yl (H++[qv.cells cs]) H.length=some cs:=by
 unfold yl
 rw[List.getElem?_append_right (Nat.le_refl _),Nat.sub_self]
 rfl
theorem jmb {t:zd}(h:yl H n=some cs):yl (H++t) n=some cs:=by
 unfold yl at h ⊢
 have hn:n<H.length:=by
  cases hh:H[n]? with
  |none=>rw[hh]at h;cases h
  |some x=>exact(List.getElem?_eq_some_iff.1 hh).1
 rw[List.getElem?_append_left hn]
 exact h
theorem qkz:decide (H.length<(H++[b]).length)=true:=by simp
theorem jbu (h:yl H n=some cs):H[n]?=some (.cells cs):=by
 unfold yl at h
 split at h
 ·next x hx=>cases h;exact hx
 ·cases h
theorem qhu:(H++[b]).set H.length c=H++[c]:=by
 rw[List.set_append_right _ _ (Nat.le_refl _),Nat.sub_self]
 rfl
end
def kw (v:qk):qv:=.cells [(.str v.kind,false),(.int .i64 v.a,false),(.int .i64 v.b,false)]
section
variable {S D:Type}
def qbg {α:Type}(g:S→α→Option (S⊕D)):List α→S→Option (S⊕D)
 | [],s=>some (.inl s)
 |v::l,s=>j5 (g s v) fun r=>match r with
  | .inl s'=>qbg g l s'
  | .inr d=>some (.inr d)
variable (y:S→Option (List qk)→Option (S⊕D))(ch:Option (List Int))(ps:Option (List qb))(c:Bool)
def vis:Nat→Option (List qk)→S→Option (S⊕D)
 |0,x,s=>j5 (f198 x) fun q=>y s q.1
 |m+1,x,s=>j5 (yd (ch.getD []) ((x.getD []).length:Int)) fun i=>j5 (yd (ps.getD []) i) fun p=>j5 (f99 p c) fun vs=>
   cond (decide ((vs.1.getD []).length≤9)) (j5 (f198 x) fun q=>cond (q.2||q.1.isNone) (qbg (fun s v=>j5 (apO q.1 [v]) fun x'=>vis m x' s) (vs.1.getD []) s) none) none
end
structure ji (S D:Type) where
 HS:S→zd
 HD:D→zd
 N:Nat
 V:Nat
 b:Nat
 ls:∀s,(HS s).length=N
 ld:∀d,(HD d).length=N
 bs:∀n s,N≤n→yt n (HS s)=true
 bd:∀n d,N≤n→yt n (HD d)=true
 ch:Option (List Int)
 ps:Option (List qb)
 c:Bool
 hV:∀s,yl (HS s) V=some [(.fn (.func 197) [] [.vptr (sl 1 zh ch),.vptr (.fn (.yield b) [] []),.vptr (sl 8 zi ps),.vptr (.bool c),.ptr V 0],false)]
section
variable {S D:Type}(F:ji S D)
def ji.hr:S ⊕ D→zd
 | .inl s=>F.HS s
 | .inr d=>F.HD d
def isL:S ⊕ D→Bool
 | .inl _=>true
 | .inr _=>false
def ji.yields (y:S→Option (List qk)→Option (S⊕D)):Prop:=∀s x (els:List qk) r,y s x=some r→qbm (X pr) F.b [sl 3 vel x] (F.HS s++els.map kw)=some (.bool (isL r),F.hr r++els.map kw)
theorem ji.ltV (s:S):F.V<F.N:=by
 have h:=F.hV s
 rw[←F.ls s]
 unfold yl at h
 cases hh:(F.HS s)[F.V]? with
 |none=>rw[hh]at h;cases h
 |some x=>exact(List.getElem?_eq_some_iff.1 hh).1
theorem qsb {n:Nat}:∀els:List qk,yt n (els.map kw)=true
 | []=>rfl
 |v::l=>by
  show(qbb n (kw v)&&yt n (l.map kw))=true
  rw[qsb l];rfl
theorem qed {n:Nat}:∀ {a b:zd},yt n a=true→yt n b=true→yt n (a++b)=true
 | [],b,_,h2=>h2
 |x::a,b,h1,h2=>by
  simp only[yt,Bool.and_eq_true]at h1
  show(qbb n x&&yt n (a++b))=true
  rw[h1.1,qed h1.2 h2];rfl
theorem ji.below {els:List qk}{r:S⊕D}{n:Nat}(hn:F.N≤n):yt n (F.hr r++els.map kw)=true:=by
 cases r with
 |inl s=>exact qed (F.bs n s hn) (qsb els)
 |inr d=>exact qed (F.bd n d hn) (qsb els)
theorem ji.len {els:List qk}{r:S⊕D}:(F.hr r++els.map kw).length=F.N+els.length:=by
 rw[List.length_append,List.length_map]
 cases r with
 |inl s=>show(F.HS s).length+_=_;rw[F.ls]
 |inr d=>show(F.HD d).length+_=_;rw[F.ld]
end
theorem jgu {o28:Bool}{H:zd}{x vs:Option (List qk)}{v:qk}{V n:Nat}{i:Int}(hv:yd (vs.getD []) i=some v)(hV:V<H.length):
  X pr (.region 1 [⟨some 32,.indexAddr 3 (.tmp 28) (.tmp 30),none,none⟩,⟨some 33,.load true 3 (.tmp 32),none,none⟩,⟨some 9,.alloc 0 [(.str []),(.int .i64 0),(.int .i64 0)],none,none⟩,⟨none,.store 3 (.tmp 9) (.tmp 33),none,none⟩] (some [0,5,9,28,29,30]))
   ⟨[(0,sl 3 vel x,false),(5,.ptr V 0,false),(28,sl 3 vel vs,o28),(29,.int .i64 n,false),(30,.int .i64 i,false)],H⟩=some (.normal,⟨[(0,sl 3 vel x,false),(5,.ptr V 0,false),(9,.ptr H.length 0,false),(28,sl 3 vel vs,o28),(29,.int .i64 n,false),(30,.int .i64 i,false)],H++[kw v]⟩):=by
 simp only[go_sem,seval,zf hv,qk1,qhy,qhu,Nat.add_zero,qk4,qkz]
 rfl
section
variable {S D:Type}(F:ji S D)
def ji.args (x:Option (List qk)):List qa:=[sl 3 vel x,.vptr (sl 1 zh F.ch),.vptr (.fn (.yield F.b) [] []),.vptr (sl 8 zi F.ps),.vptr (.bool F.c),.ptr F.V 0]
def ji.visits (f:S→Option (List qk)→Option (S⊕D)):Prop:=∀s x (els:List qk) r,f s x=some r→∃t,yk pr (X pr) 197 (F.args x) (F.HS s++els.map kw)=some (.bool (isL r),false,F.hr r++els.map kw++t)
def qzg (f:S→Option (List qk)→Option (S⊕D))(x vs:Option (List qk))(d:Int×S):Option ((Int×S)⊕((Int×S)⊕(qk×D))):=
 cond (decide (d.1<((vs.getD []).length:Int))) (j5 (yd (vs.getD []) d.1) fun v=>j5 (f198 x) fun q=>cond (q.2||q.1.isNone) (j5 (apO q.1 [v]) fun x'=>j5 (f d.2 x') fun r=>match r with
  | .inl s'=>some (.inl (za .i64 (d.1+1),s'))
  | .inr e=>some (.inr (.inr (v,e)))) none) (some (.inr (.inl d)))
def qj2 (x vs:Option (List qk))(o28:Bool)(els:List qk)(d:Int×S):qc:=⟨[(0,sl 3 vel x,false),(5,.ptr F.V 0,false),(28,sl 3 vel vs,o28),(29,.int .i64 ((vs.getD []).length:Int),false),(30,.int .i64 d.1,false)],F.HS d.2++els.map kw⟩
def qqy (x vs:Option (List qk))(o28:Bool)(els:List qk):(Int×S)⊕(qk×D)→qi×qc
 | .inl d=>(.exit 0,⟨[(0,sl 3 vel x,false),(5,.ptr F.V 0,false),(28,sl 3 vel vs,o28),(29,.int .i64 ((vs.getD []).length:Int),false),(30,.int .i64 d.1,false),(31,.bool false,false)],F.HS d.2++els.map kw⟩)
 | .inr d=>(.ret,⟨[(7,.bool false,false)],F.HD d.2++(els++[d.1]).map kw⟩)
theorem j2r {f:S→Option (List qk)→Option (S⊕D)}(hf:F.visits f){x vs:Option (List qk)}{o28:Bool}{els:List qk}(d:Int×S)(r)(h:qzg f x vs d=some r):yh pr qi8 (qj2 F x vs o28 els) (qqy F x vs o28 els) d r:=by
 obtain⟨i,s⟩:=d
 unfold qzg at h
 dsimp only at h
 rcases j0 h with⟨h1,k⟩|⟨h1,k⟩
 ·obtain⟨v,h2,k⟩:=jz k
  obtain⟨⟨x1,w1⟩,h3,k⟩:=jz k
  rcases j0 k with⟨h4,k⟩|⟨h4,k⟩
  ·obtain⟨x',h5,k⟩:=jz k
   obtain⟨r1,h6,k⟩:=jz k
   have g3:=jmi h3
   have hlt:F.V<(F.HS s++els.map kw).length:=by
    rw[List.length_append,F.ls];have:=F.ltV s;omega
   have hb:=jgu (o28:=o28) (x:=x) (n:=(vs.getD []).length) h2 hlt
   have hV:=jmb (t:=els.map kw++[kw v]) (F.hV s)
   rw[←List.append_assoc]at hV
   obtain⟨t,hc⟩:=hf s x' (els++[v]) r1 h6
   have he:F.HS s++(els++[v]).map kw=F.HS s++els.map kw++[kw v]:=by rw[List.map_append,List.append_assoc];rfl
   have hlen:(F.HS s++els.map kw++[kw v]).length=F.N+(els++[v]).length:=by rw[←he];exact F.len (r:=.inl s)
   have hlen2:(F.HS s++els.map kw).length=F.N+els.length:=F.len (r:=.inl s)
   have ha:qag (F.HS s++els.map kw++[kw v]).length (.bool (isL r1)) (F.hr r1++(els++[v]).map kw++t)=F.hr r1++(els++[v]).map kw:=by
    rw[hlen]
    exact qpz F.len rfl (F.below (by omega))
   rw[he]at hc
   have hd:((F.HS s++els.map kw++[kw v])[F.V]?)=some (.cells [(.fn (.func 197) [] [.vptr (sl 1 zh F.ch),.vptr (.fn (.yield F.b) [] []),.vptr (sl 8 zi F.ps),.vptr (.bool F.c),.ptr F.V 0],false)]):=jbu hV
   have hVl:F.V<(F.HS s++els.map kw++[kw v]).length:=by rw[List.length_append];omega
   generalize hH:F.HS s++els.map kw=H at *
   simp only[kw,ji.args]at hd hVl hc ha
   have ap:appR 3 32 (H++[.cells [(.str v.kind,false),(.int .i64 v.a,false),(.int .i64 v.b,false)]]) (cond w1 (some 36) none) (some (sl 3 vel x1)) (some (.list false 3 [.agg [.str v.kind,.int .i64 v.a,.int .i64 v.b]]))=some ⟨sl 3 vel x',true,cond w1 (some 36) none,H++[.cells [(.str v.kind,false),(.int .i64 v.a,false),(.int .i64 v.b,false)]]⟩:=by
    cases w1 with
    |true=>rw[cT,qch h5];rfl
    |false=>rw[cF,qjg h5 (by simpa using h4)];rfl
   cases r1 with
   |inl s'=>
    cases k
    have hs:F.hr (.inl s')=F.HS s':=rfl
    refine qex (st':=⟨[(0,sl 3 vel x,false),(5,.ptr F.V 0,false),(28,sl 3 vel vs,o28),(29,.int .i64 ((vs.getD []).length:Int),false),(30,.int .i64 (za .i64 (i+1)),false)],F.HS s'++(els++[v]).map kw⟩) ?_ ?_
    ·cases w1 with
     |true=>
      simp only[cT,isL,hs]at ap hc ha
      simp only[go_sem,seval,qi8,qj2,h1,hH,zf h2,qk1,qhy,qhu,Nat.add_zero,qk4,qkz,hd,hVl,decide_true,g3,ap,hc,ha]
     |false=>
      simp only[cF,isL,hs]at ap hc ha
      simp only[go_sem,seval,qi8,qj2,h1,hH,zf h2,qk1,qhy,qhu,Nat.add_zero,qk4,qkz,hd,hVl,decide_true,g3,ap,hc,ha]
    ·have hn:(F.HS s++els.map kw).length=F.N+els.length:=F.len (r:=.inl s)
     have hm:F.HS s'++(els++[v]).map kw=(F.HS s'++els.map kw)++[kw v]:=by rw[List.map_append,List.append_assoc];rfl
     show gc (F.HS s++els.map kw).length _=qj2 F x vs o28 els (za .i64 (i+1),s')
     rw[hn,hm]
     refine qtn (h:=F.HS s'++els.map kw) (h':=[kw v]) (F.len (r:=.inl s')).symm rfl ?_ (F.below (r:=.inl s') (by omega))
     have b1:Abs.below (F.N+els.length) (sl 3 vel x)=true:=by simp only[go_sem,seval]
     have b2:Abs.below (F.N+els.length) (sl 3 vel vs)=true:=by simp only[go_sem,seval]
     have b3:Abs.below (F.N+els.length) (.ptr F.V 0)=true:=by
      show Nat.blt F.V _=true
      have:=F.ltV s
      exact Nat.ble_eq_true_of_le (by omega)
     show(Abs.below _ (sl 3 vel x)&&(Abs.below _ (.ptr F.V 0)&&(Abs.below _ (sl 3 vel vs)&&(true&&(true&&true)))))=true
     rw[b1,b2,b3];rfl
   |inr e=>
    cases k
    have hs:F.hr (.inr e)=F.HD e:=rfl
    refine j8 ?_
    cases w1 with
    |true=>
     simp only[cT,isL,hs]at ap hc ha
     simp only[go_sem,seval,qi8,qj2,h1,hH,zf h2,qk1,qhy,qhu,Nat.add_zero,qk4,qkz,hd,hVl,decide_true,g3,ap,hc,ha,qqy]
    |false=>
     simp only[cF,isL,hs]at ap hc ha
     simp only[go_sem,seval,qi8,qj2,h1,hH,zf h2,qk1,qhy,qhu,Nat.add_zero,qk4,qkz,hd,hVl,decide_true,g3,ap,hc,ha,qqy]
  ·cases k
 ·cases k
  exact j8 (by simp only[go_sem,seval,qi8,qj2,h1,qqy]<;>rfl)
theorem jf3 {f:S→Option (List qk)→Option (S⊕D)}{x vs:Option (List qk)}{q:Option (List qk)×Bool}(hx:f198 x=some q)(ho:(q.2||q.1.isNone)=true)(hl:(vs.getD []).length≤9):∀ {k i:Nat} {s:S} {r},(vs.getD []).length=i+k→qbg (fun s v=>j5 (apO q.1 [v]) fun x'=>f s x') ((vs.getD []).drop i) s=some r →
  ∃d,itO (qzg f x vs) ((i:Int),s)=some d∧(match r,d with | .inl s',.inl d'=>d'.2=s' | .inr e,.inr d'=>d'.2=e|_,_=>False)
 |0,i,s,r,hk,h=>by
  rw[List.drop_eq_nil_of_le (by omega)]at h
  cases h
  refine⟨.inl ((i:Int),s),qab ?_,rfl⟩
  unfold qzg
  dsimp only
  rw[dF (show ¬(i:Int)<((vs.getD []).length:Int) by omega)];rfl
 |k+1,i,s,r,hk,h=>by
  have hi:i<(vs.getD []).length:=by omega
  have hv:(vs.getD [])[i]?=some (vs.getD [])[i]:=List.getElem?_eq_getElem hi
  rw[kl hv]at h
  simp only[qbg]at h
  obtain⟨r1,h1,h2⟩:=jz h
  have e:qzg f x vs ((i:Int),s)=some (Sum.elim (fun s'=>.inl (((i+1:Nat):Int),s')) (fun e=>.inr (.inr ((vs.getD [])[i],e))) r1):=by
   obtain⟨x',h3,h4⟩:=jz h1
   unfold qzg
   dsimp only
   rw[dT (show(i:Int)<((vs.getD []).length:Int) by omega),cT,qgg,hv,j6,hx,j6,ho,cT,h3,j6,h4,j6,yz (x:=(i:Int)+1) (by omega) (by omega)]
   cases r1<;>rfl
  cases r1 with
  |inl s'=>
   obtain⟨d,g1,g2⟩:=jf3 hx ho hl (k:=k) (i:=i+1) (by omega) h2
   exact⟨d,by rw[qbi e];exact g1,g2⟩
  |inr e'=>
   cases h2
   exact⟨_,qab e,rfl⟩
theorem qxb {α:Type}{g g':S→α→Option (S⊕D)}(hg:∀s v r,g s v=some r→g' s v=some r):∀ {l:List α} {s:S} {r},qbg g l s=some r→qbg g' l s=some r
 | [],s,r,h=>h
 |v::l,s,r,h=>by
  simp only[qbg]at h ⊢
  obtain⟨r1,h1,h2⟩:=jz h
  rw[hg _ _ _ h1,j6]
  cases r1 with
  |inl s'=>exact qxb hg h2
  |inr e=>exact h2
theorem q60 {α:Type}{o v:Option (List α)}{ys:List α}(h:apO o ys=some v):v.getD []=o.getD []++ys:=by
 unfold apO at h
 split at h
 ·cases h
  cases o<;>cases ys<;>simp[apS]
 ·cases h
theorem qv7 {h0 b:Nat}{al:Option (List Nat)}{h:zd}:qcp h0 al false 1 h (some (.vptr (.fn (.yield b) [] [])))=some ⟨.fn (.yield b) [] [],false,none,h⟩:=rfl
theorem jdh {x:Option (List qk)}{q}(h:f198 x=some q):q.1.getD []=x.getD []:=by
 unfold f198 at h
 cases x with
 |none=>cases h;rfl
 |some l=>
  obtain⟨v,h1,h2⟩:=jz h
  cases h2
  have:=q60 h1
  simpa using this
theorem q3v {y:S→Option (List qk)→Option (S⊕D)}(hy:F.yields y):∀m,F.visits fun s x=>cond (decide ((F.ch.getD []).length=(x.getD []).length+m)) (vis y F.ch F.ps F.c m x s) none
 |0,s,x,els,r,h=>by
  rcases j0 h with⟨h1,k⟩|⟨h1,k⟩
  ·have h1:(F.ch.getD []).length=(x.getD []).length:=by simpa using h1
   unfold vis at k
   obtain⟨q,h2,k⟩:=jz k
   have g2:=jmi h2
   have g3:=hy s q.1 els r k
   have hd:decide (((x.getD []).length:Int)=((F.ch.getD []).length:Int))=true:=dT (by omega)
   unfold ji.args
   rw[qak (show pr.fns 197=some c197 from rfl) (by simp)]
   refine⟨[],?_⟩
   rw[List.append_nil]
   simp only[go_sem,seval,c197,hd,qv7,g2,g3]
  ·cases k
 |m+1,s,x,els,r,h=>by
  rcases j0 h with⟨h1,k⟩|⟨h1,k⟩
  ·have h1:(F.ch.getD []).length=(x.getD []).length+(m+1):=by simpa using h1
   unfold vis at k
   obtain⟨i,h2,k⟩:=jz k
   obtain⟨p,h3,k⟩:=jz k
   obtain⟨vs,h4,k⟩:=jz k
   rcases j0 k with⟨h5,k⟩|⟨h5,k⟩
   ·obtain⟨q,h6,k⟩:=jz k
    rcases j0 k with⟨h7,k⟩|⟨h7,k⟩
    ·have ih:=q3v hy m
     have hd:decide (((x.getD []).length:Int)=((F.ch.getD []).length:Int))=false:=dF (by omega)
     have k':qbg (fun s v=>j5 (apO q.1 [v]) fun x'=>(fun s x=>cond (decide ((F.ch.getD []).length=(x.getD []).length+m)) (vis y F.ch F.ps F.c m x s) none) s x') (vs.1.getD []) s=some r:=qxb (fun s v r hr=>by
      obtain⟨x',j1,j2⟩:=jz hr
      have hl:(x'.getD []).length=(x.getD []).length+1:=by rw[q60 j1,jdh h6,List.length_append];rfl
      rw[j1,j6]
      dsimp only
      rw[dT (by omega),cT]
      exact j2) k
     obtain⟨d,g1,g2⟩:=jf3 h6 h7 (by simpa using h5) (k:=(vs.1.getD []).length) (i:=0) (by omega) (by rw[List.drop_zero];exact k')
     have hlo:X pr (.loop qi8) (qj2 F x vs.1 vs.2 els (((0:Nat):Int),s))=some (qqy F x vs.1 vs.2 els d):=yo (j2r F ih) (fun d=>by cases d<;>(intro hh;cases hh)) g1
     have g99:=W99 h4
     unfold ji.args
     rw[qak (show pr.fns 197=some c197 from rfl) (by simp)]
     simp only[qj2,show((0:Nat):Int)=0 from rfl]at hlo
     cases r with
     |inl s'=>
      cases d with
      |inl d'=>
       obtain rfl:d'.2=s':=g2
       refine⟨[],?_⟩
       rw[List.append_nil]
       simp only[qqy]at hlo
       simp only[go_sem,seval,c197,hd,qv7,zf h2,zf h3,g99,hlo]
       rfl
      |inr d'=>exact g2.elim
     |inr e=>
      cases d with
      |inl d'=>exact g2.elim
      |inr d'=>
       obtain rfl:d'.2=e:=g2
       refine⟨[kw d'.1],?_⟩
       simp only[qqy]at hlo
       have hm:F.HD d'.2++(els++[d'.1]).map kw=F.HD d'.2++els.map kw++[kw d'.1]:=by rw[List.map_append,List.append_assoc];rfl
       rw[hm]at hlo
       simp only[go_sem,seval,c197,hd,qv7,zf h2,zf h3,g99,hlo]
       rfl
    ·cases k
   ·cases k
  ·cases k
end
section
variable {S D:Type}
structure Base (S D:Type) where
 R:S→zd
 RD:D→zd
 n:Nat
 b:Nat
 ls:∀s,(R s).length=n
 ld:∀d,(RD d).length=n
 bs:∀k s,n≤k→yt k (R s)=true
 bd:∀k d,n≤k→yt k (RD d)=true
 hb:b<n
 ch:Option (List Int)
 ps:Option (List qb)
 c:Bool
def qg7 (B:Base S D):qv:=.cells [(.fn (.func 197) [] [.vptr (sl 1 zh B.ch),.vptr (.fn (.yield B.b) [] []),.vptr (sl 8 zi B.ps),.vptr (.bool B.c),.ptr B.n 0],false)]
theorem qxi (B:Base S D){k:Nat}(h:B.n+1≤k):qbb k (qg7 B)=true:=by
 have h1:Abs.below k (sl 1 zh B.ch)=true:=by simp only[go_sem,seval]
 have h2:Abs.below k (sl 8 zi B.ps)=true:=by simp only[go_sem,seval]
 have h3:Nat.blt B.b k=true:=Nat.ble_eq_true_of_le (by have:=B.hb;omega)
 have h4:Nat.blt B.n k=true:=Nat.ble_eq_true_of_le (by omega)
 show((true&&(Abs.below k (sl 1 zh B.ch)&&((Nat.blt B.b k&&true&&true)&&(Abs.below k (sl 8 zi B.ps)&&(true&&(Nat.blt B.n k&&true))))))&&true)=true
 rw[h1,h2,h3,h4];rfl
def Base.fam (B:Base S D):ji S D where
 HS s:=B.R s++[qg7 B]
 HD d:=B.RD d++[qg7 B]
 N:=B.n+1
 V:=B.n
 b:=B.b
 ls s:=by rw[List.length_append,B.ls];rfl
 ld d:=by rw[List.length_append,B.ld];rfl
 bs n s h:=qed (B.bs n s (by omega)) (by show(qbb n (qg7 B)&&true)=true;rw[qxi B h];rfl)
 bd n d h:=qed (B.bd n d (by omega)) (by show(qbb n (qg7 B)&&true)=true;rw[qxi B h];rfl)
 ch:=B.ch
 ps:=B.ps
 c:=B.c
 hV s:=by
  have h:yl (B.R s++[qg7 B]) (B.R s).length=some _:=qhy
  rw[B.ls]at h
  exact h
theorem jjj (B:Base S D){y:S→Option (List qk)→Option (S⊕D)}(hy:B.fam.yields y){s:S}{r}(h:vis y B.ch B.ps B.c (B.ch.getD []).length none s=some r):
  yk pr (X pr) 196 [.fn (.yield B.b) [] [],.vptr (sl 1 zh B.ch),.vptr (sl 8 zi B.ps),.vptr (.bool B.c)] (B.R s)=some (.tup [],false,B.fam.hr r):=by
 obtain⟨t,hc⟩:=q3v B.fam hy (B.ch.getD []).length s none [] r (by
  show cond (decide ((B.ch.getD []).length=0+(B.ch.getD []).length)) (vis y B.ch B.ps B.c (B.ch.getD []).length none s) none=some r
  rw[dT (Nat.zero_add _).symm,cT]
  exact h)
 have e1:B.fam.HS s++([]:List qk).map kw=B.R s++[qg7 B]:=by rw[List.map_nil,List.append_nil];rfl
 have e2:B.fam.hr r++([]:List qk).map kw++t=B.fam.hr r++t:=by rw[List.map_nil,List.append_nil]
 rw[e1,e2]at hc
 have hl:(B.R s++[qg7 B]).length=B.n+1:=by rw[List.length_append,B.ls];rfl
 have ha:qag (B.R s++[qg7 B]).length (.bool (isL r)) (B.fam.hr r++t)=B.fam.hr r:=by
  rw[hl]
  refine qpz ?_ rfl ?_
  ·have:=B.fam.len (els:=[]) (r:=r)
   rw[List.map_nil,List.append_nil]at this
   exact this
  ·have:=B.fam.below (els:=[]) (r:=r) (n:=B.n+1) (Nat.le_refl _)
   rw[List.map_nil,List.append_nil]at this
   exact this
 have hn:=B.ls s
 have ea:B.fam.args none=[.list true 0 [],.vptr (sl 1 zh B.ch),.vptr (.fn (.yield B.b) [] []),.vptr (sl 8 zi B.ps),.vptr (.bool B.c),.ptr (B.R s).length 0]:=by rw[hn];rfl
 rw[ea]at hc
 have ev:qg7 B=.cells [(.fn (.func 197) [] [.vptr (sl 1 zh B.ch),.vptr (.fn (.yield B.b) [] []),.vptr (sl 8 zi B.ps),.vptr (.bool B.c),.ptr (B.R s).length 0],false)]:=by unfold qg7;rw[hn]
 rw[ev]at hc ha
 generalize B.R s=H at *
 rw[qak (show pr.fns 196=some c196 from rfl) (by simp)]
 simp only[go_sem,seval,c196,qk1,qhy,qhu,Nat.add_zero,qk4,qkz,decide_true,hc,ha]
end
end Go.Z
end
