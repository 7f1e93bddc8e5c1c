/- Chapter 4. -/
import Derived.Test.YtnjngdcbkkonnaaGreatDoorA1
set_option linter.unusedVariables false
set_option linter.unusedSimpArgs false
set_option maxRecDepth 100000
set_option maxHeartbeats 4000000
noncomputable section
namespace Go.Z
open Go Go.Abs
def f175 (a0:qh):Option Int:=
 some (za .i64 ((za .i64 (a0.num*a0.num))+(za .i64 (a0.den*a0.den))))
theorem jmc {a0:qh}{r}(h:f175 a0=some r):j7 pr (X pr) 175 [.agg [Iv a0.num,Iv a0.den]]=some (Iv r,false):=by
 unfold f175 at h
 obtain rfl:=oi h
 refine zg c175 ?_
 simp only[go_sem,seval,c175]
 exact⟨_,rfl⟩
def f207 (a0:qh)(a1:qh):Option qh:=
 some (⟨za .i64 ((za .i64 (a0.num*a1.num))-(za .i64 (a0.den*a1.den))),za .i64 ((za .i64 (a0.num*a1.den))+(za .i64 (a0.den*a1.num)))⟩)
theorem qrf {a0:qh}{a1:qh}{r}(h:f207 a0 a1=some r):j7 pr (X pr) 207 [.agg [Iv a0.num,Iv a0.den],.agg [Iv a1.num,Iv a1.den]]=some (.agg [Iv r.num,Iv r.den],false):=by
 unfold f207 at h
 obtain rfl:=oi h
 refine zg c207 ?_
 simp only[go_sem,seval,c207]
 exact⟨_,rfl⟩
def f234 (a0:qh)(a1:qh):Option qh:=
 some (⟨za .i64 (a0.num+a1.num),za .i64 (a0.den+a1.den)⟩)
theorem q73 {a0:qh}{a1:qh}{r}(h:f234 a0 a1=some r):j7 pr (X pr) 234 [.agg [Iv a0.num,Iv a0.den],.agg [Iv a1.num,Iv a1.den]]=some (.agg [Iv r.num,Iv r.den],false):=by
 unfold f234 at h
 obtain rfl:=oi h
 refine zg c234 ?_
 simp only[go_sem,seval,c234]
 exact⟨_,rfl⟩
def f206 (a0:qr)(a1:qr):Option qr:=
 j5 (f207 (⟨a0.m0,a0.m1⟩) (⟨a1.m0,a1.m1⟩)) fun v1=>
 j5 (f207 (⟨a0.m2,a0.m3⟩) (⟨a1.m4,a1.m5⟩)) fun v3=>
 j5 (f234 v1 v3) fun v5=>
 j5 (f207 (⟨a0.m0,a0.m1⟩) (⟨a1.m2,a1.m3⟩)) fun v7=>
 j5 (f207 (⟨a0.m2,a0.m3⟩) (⟨a1.m6,a1.m7⟩)) fun v9=>
 j5 (f234 v7 v9) fun v11=>
 j5 (f207 (⟨a0.m4,a0.m5⟩) (⟨a1.m0,a1.m1⟩)) fun v13=>
 j5 (f207 (⟨a0.m6,a0.m7⟩) (⟨a1.m4,a1.m5⟩)) fun v15=>
 j5 (f234 v13 v15) fun v17=>
 j5 (f207 (⟨a0.m4,a0.m5⟩) (⟨a1.m2,a1.m3⟩)) fun v19=>
 j5 (f207 (⟨a0.m6,a0.m7⟩) (⟨a1.m6,a1.m7⟩)) fun v21=>
 j5 (f234 v19 v21) fun v23=>
 some (⟨v5.num,v5.den,v11.num,v11.den,v17.num,v17.den,v23.num,v23.den⟩)
theorem j2c {a0:qr}{a1:qr}{r}(h:f206 a0 a1=some r):j7 pr (X pr) 206 [.agg [Iv a0.m0,Iv a0.m1,Iv a0.m2,Iv a0.m3,Iv a0.m4,Iv a0.m5,Iv a0.m6,Iv a0.m7],.agg [Iv a1.m0,Iv a1.m1,Iv a1.m2,Iv a1.m3,Iv a1.m4,Iv a1.m5,Iv a1.m6,Iv a1.m7]]=some (.agg [Iv r.m0,Iv r.m1,Iv r.m2,Iv r.m3,Iv r.m4,Iv r.m5,Iv r.m6,Iv r.m7],false):=by
 unfold f206 at h
 obtain⟨v1,h2,h⟩:=jz h
 have wh2:=qrf h2
 obtain⟨v3,h4,h⟩:=jz h
 have wh4:=qrf h4
 obtain⟨v5,h6,h⟩:=jz h
 have wh6:=q73 h6
 obtain⟨v7,h8,h⟩:=jz h
 have wh8:=qrf h8
 obtain⟨v9,h10,h⟩:=jz h
 have wh10:=qrf h10
 obtain⟨v11,h12,h⟩:=jz h
 have wh12:=q73 h12
 obtain⟨v13,h14,h⟩:=jz h
 have wh14:=qrf h14
 obtain⟨v15,h16,h⟩:=jz h
 have wh16:=qrf h16
 obtain⟨v17,h18,h⟩:=jz h
 have wh18:=q73 h18
 obtain⟨v19,h20,h⟩:=jz h
 have wh20:=qrf h20
 obtain⟨v21,h22,h⟩:=jz h
 have wh22:=qrf h22
 obtain⟨v23,h24,h⟩:=jz h
 have wh24:=q73 h24
 obtain rfl:=oi h
 refine zg c206 ?_
 simp only[go_sem,seval,c206,wh2,wh4,wh6,wh8,wh10,wh12,wh14,wh16,wh18,wh20,wh22,wh24]
 exact⟨_,rfl⟩
def f218 (a0:qh):Option qr:=
 some (⟨a0.num,a0.den,1,0,0,0,a0.num,a0.den⟩)
theorem j15 {a0:qh}{r}(h:f218 a0=some r):j7 pr (X pr) 218 [.agg [Iv a0.num,Iv a0.den]]=some (.agg [Iv r.m0,Iv r.m1,Iv r.m2,Iv r.m3,Iv r.m4,Iv r.m5,Iv r.m6,Iv r.m7],false):=by
 unfold f218 at h
 obtain rfl:=oi h
 refine zg c218 ?_
 simp only[go_sem,seval,c218]
 exact⟨_,rfl⟩
def f219 (a0:qh):Option qr:=
 some (⟨1,0,a0.num,a0.den,0,0,1,0⟩)
theorem j21 {a0:qh}{r}(h:f219 a0=some r):j7 pr (X pr) 219 [.agg [Iv a0.num,Iv a0.den]]=some (.agg [Iv r.m0,Iv r.m1,Iv r.m2,Iv r.m3,Iv r.m4,Iv r.m5,Iv r.m6,Iv r.m7],false):=by
 unfold f219 at h
 obtain rfl:=oi h
 refine zg c219 ?_
 simp only[go_sem,seval,c219]
 exact⟨_,rfl⟩
def f220 (a0:qh):Option qr:=
 some (⟨1,0,0,0,a0.num,a0.den,1,0⟩)
theorem j3p {a0:qh}{r}(h:f220 a0=some r):j7 pr (X pr) 220 [.agg [Iv a0.num,Iv a0.den]]=some (.agg [Iv r.m0,Iv r.m1,Iv r.m2,Iv r.m3,Iv r.m4,Iv r.m5,Iv r.m6,Iv r.m7],false):=by
 unfold f220 at h
 obtain rfl:=oi h
 refine zg c220 ?_
 simp only[go_sem,seval,c220]
 exact⟨_,rfl⟩
def f221 (a0:qh):Option qr:=
 some (⟨a0.num,a0.den,0,0,1,0,a0.num,a0.den⟩)
theorem j2j {a0:qh}{r}(h:f221 a0=some r):j7 pr (X pr) 221 [.agg [Iv a0.num,Iv a0.den]]=some (.agg [Iv r.m0,Iv r.m1,Iv r.m2,Iv r.m3,Iv r.m4,Iv r.m5,Iv r.m6,Iv r.m7],false):=by
 unfold f221 at h
 obtain rfl:=oi h
 refine zg c221 ?_
 simp only[go_sem,seval,c221]
 exact⟨_,rfl⟩
def qx7 (a0:Int)(a1:Int)(s0:Int×Int):Option ((Int×Int)⊕((Int×Int))):=
 cond (decide (s0.2=0))
  (some (.inr (s0.1,s0.2)))
  (j5 (qmd s0.1 s0.2) fun v8=>
  some (.inl (s0.2,v8)))
def qpf (a0:Int)(a1:Int)(s0:Int×Int):qc:=⟨[(0,Iv a0,false),(1,Iv a1,false),(4,.ptr 0 0,false),(5,Iv s0.1,false),(6,Iv s0.2,false)],[.cells [(Iv 0,false),(Iv 0,false)]]⟩
def qur (a0:Int)(a1:Int)(d:(Int×Int)):qi×qc:=(.exit 0,⟨[(0,Iv a0,false),(1,Iv a1,false),(4,.ptr 0 0,false),(5,Iv d.1,false),(6,Iv d.2,false),(10,.bool false,false)],[.cells [(Iv 0,false),(Iv 0,false)]]⟩)
theorem jlj (a0:Int)(a1:Int)(s0:Int×Int)(r)(h:qx7 a0 a1 s0=some r):yh pr qr7 (qpf a0 a1) (qur a0 a1) s0 r:=by
 unfold qx7 at h
 rcases j0 h with⟨h7,h⟩|⟨h7,h⟩
 ·cases h
  exact j8 (by simp only[go_sem,seval,qr7,qpf,h7,qur]<;>rfl)
 obtain⟨v8,h9,h⟩:=jz h
 cases h
 exact zp (by simp only[go_sem,seval,qr7,qpf,h7,qeo h9]<;>rfl)
theorem jmr (a0:Int)(a1:Int){s0:Int×Int}{d}(h:itO (qx7 a0 a1) s0=some d):X pr (.loop qr7) (qpf a0 a1 s0)=some (qur a0 a1 d):=yo (jlj a0 a1) (fun d hh=>by cases hh) h
def f125 (a0:Int)(a1:Int):Option qh:=
 j5 (itO (qx7 a0 a1) (a0,a1)) fun d10=>
 j5 (qey .i64 a0 d10.1) fun v12=>
 j5 (qey .i64 a1 d10.1) fun v14=>
 some (⟨v12,v14⟩)
theorem jzb {a0:Int}{a1:Int}{r}(h:f125 a0 a1=some r):j7 pr (X pr) 125 [Iv a0,Iv a1]=some (.agg [Iv r.num,Iv r.den],false):=by
 unfold f125 at h
 obtain⟨d10,h11,h⟩:=jz h
 have wh11:=jmr a0 a1 h11
 dsimp only[qpf,qur]at wh11
 obtain⟨v12,h13,h⟩:=jz h
 obtain⟨v14,h15,h⟩:=jz h
 obtain rfl:=oi h
 refine zg c125 ?_
 simp only[go_sem,seval,c125,wh11,qaz h13,qaz h15]
 exact⟨_,rfl⟩
def qx0 (a0:Int)(a1:Int)(s0:Int×Int):Option ((Int×Int)⊕((Int×Int))):=
 cond (decide (s0.2=0))
  (some (.inr (s0.1,s0.2)))
  (j5 (qmd s0.1 s0.2) fun v8=>
  some (.inl (s0.2,v8)))
def qoj (a0:Int)(a1:Int)(s0:Int×Int):qc:=⟨[(0,Iv a0,false),(1,Iv a1,false),(4,.ptr 0 0,false),(5,Iv s0.1,false),(6,Iv s0.2,false)],[.cells [(Iv 0,false),(Iv 0,false)]]⟩
def qt7 (a0:Int)(a1:Int)(d:(Int×Int)):qi×qc:=(.exit 0,⟨[(0,Iv a0,false),(1,Iv a1,false),(4,.ptr 0 0,false),(5,Iv d.1,false),(6,Iv d.2,false),(10,.bool false,false)],[.cells [(Iv 0,false),(Iv 0,false)]]⟩)
theorem jjq (a0:Int)(a1:Int)(s0:Int×Int)(r)(h:qx0 a0 a1 s0=some r):yh pr qry (qoj a0 a1) (qt7 a0 a1) s0 r:=by
 unfold qx0 at h
 rcases j0 h with⟨h7,h⟩|⟨h7,h⟩
 ·cases h
  exact j8 (by simp only[go_sem,seval,qry,qoj,h7,qt7]<;>rfl)
 obtain⟨v8,h9,h⟩:=jz h
 cases h
 exact zp (by simp only[go_sem,seval,qry,qoj,h7,qeo h9]<;>rfl)
theorem jk9 (a0:Int)(a1:Int){s0:Int×Int}{d}(h:itO (qx0 a0 a1) s0=some d):X pr (.loop qry) (qoj a0 a1 s0)=some (qt7 a0 a1 d):=yo (jjq a0 a1) (fun d hh=>by cases hh) h
def f174 (a0:Int)(a1:Int):Option qh:=
 j5 (itO (qx0 a0 a1) (a0,a1)) fun d10=>
 j5 (qey .i64 a0 d10.1) fun v12=>
 j5 (qey .i64 a1 d10.1) fun v14=>
 some (⟨v12,v14⟩)
theorem j07 {a0:Int}{a1:Int}{r}(h:f174 a0 a1=some r):j7 pr (X pr) 174 [Iv a0,Iv a1]=some (.agg [Iv r.num,Iv r.den],false):=by
 unfold f174 at h
 obtain⟨d10,h11,h⟩:=jz h
 have wh11:=jk9 a0 a1 h11
 dsimp only[qoj,qt7]at wh11
 obtain⟨v12,h13,h⟩:=jz h
 obtain⟨v14,h15,h⟩:=jz h
 obtain rfl:=oi h
 refine zg c174 ?_
 simp only[go_sem,seval,c174,wh11,qaz h13,qaz h15]
 exact⟨_,rfl⟩
def f166:Option qh:=
 some (⟨1,0⟩)
theorem qyt {r}(h:f166=some r):j7 pr (X pr) 166 []=some (.agg [Iv r.num,Iv r.den],false):=by
 unfold f166 at h
 obtain rfl:=oi h
 refine zg c166 ?_
 simp only[go_sem,seval,c166]
 exact⟨_,rfl⟩
def f168:Option qh:=
 some (⟨0,0⟩)
theorem qv5 {r}(h:f168=some r):j7 pr (X pr) 168 []=some (.agg [Iv r.num,Iv r.den],false):=by
 unfold f168 at h
 obtain rfl:=oi h
 refine zg c168 ?_
 simp only[go_sem,seval,c168]
 exact⟨_,rfl⟩
def f167 (a0:qk)(a1:Int):Option qh:=
 some (⟨a0.a,za .i64 (a1*a0.b)⟩)
theorem jmz {a0:qk}{a1:Int}{r}(h:f167 a0 a1=some r):j7 pr (X pr) 167 [.agg [.str a0.kind,Iv a0.a,Iv a0.b],Iv a1]=some (.agg [Iv r.num,Iv r.den],false):=by
 unfold f167 at h
 obtain rfl:=oi h
 refine zg c167 ?_
 simp only[go_sem,seval,c167]
 exact⟨_,rfl⟩
def f63 (a0:qh)(a1:qh):Option qh:=
 some (⟨za .i64 ((za .i64 (a0.num*a1.num))-(za .i64 (a0.den*a1.den))),za .i64 ((za .i64 (a0.num*a1.den))+(za .i64 (a0.den*a1.num)))⟩)
theorem W63 {a0:qh}{a1:qh}{r}(h:f63 a0 a1=some r):j7 pr (X pr) 63 [.agg [Iv a0.num,Iv a0.den],.agg [Iv a1.num,Iv a1.den]]=some (.agg [Iv r.num,Iv r.den],false):=by
 unfold f63 at h
 obtain rfl:=oi h
 refine zg c63 ?_
 simp only[go_sem,seval,c63]
 exact⟨_,rfl⟩
def f64 (a0:qh)(a1:qh):Option qh:=
 some (⟨za .i64 (a0.num+a1.num),za .i64 (a0.den+a1.den)⟩)
theorem W64 {a0:qh}{a1:qh}{r}(h:f64 a0 a1=some r):j7 pr (X pr) 64 [.agg [Iv a0.num,Iv a0.den],.agg [Iv a1.num,Iv a1.den]]=some (.agg [Iv r.num,Iv r.den],false):=by
 unfold f64 at h
 obtain rfl:=oi h
 refine zg c64 ?_
 simp only[go_sem,seval,c64]
 exact⟨_,rfl⟩
def q1k (a0:Int)(a1:Int)(s0:Int×Int):Option ((Int×Int)⊕((Int×Int))):=
 cond (decide (s0.2=0))
  (some (.inr (s0.1,s0.2)))
  (j5 (qmd s0.1 s0.2) fun v9=>
  some (.inl (s0.2,v9)))
def qtg (a0:Int)(a1:Int)(s0:Int×Int):qc:=⟨[(0,Iv (za .i64 (0-a0)),false),(1,Iv (za .i64 (0-a1)),false),(4,.ptr 0 0,false),(5,Iv s0.1,false),(6,Iv s0.2,false)],[.cells [(Iv 0,false),(Iv 0,false)]]⟩
def qyb (a0:Int)(a1:Int)(d:(Int×Int)):qi×qc:=(.exit 0,⟨[(0,Iv (za .i64 (0-a0)),false),(1,Iv (za .i64 (0-a1)),false),(4,.ptr 0 0,false),(5,Iv d.1,false),(6,Iv d.2,false),(19,.bool false,false)],[.cells [(Iv 0,false),(Iv 0,false)]]⟩)
theorem jv0 (a0:Int)(a1:Int)(s0:Int×Int)(r)(h:q1k a0 a1 s0=some r):yh pr qj9 (qtg a0 a1) (qyb a0 a1) s0 r:=by
 unfold q1k at h
 rcases j0 h with⟨h8,h⟩|⟨h8,h⟩
 ·cases h
  exact j8 (by simp only[go_sem,seval,qj9,qtg,h8,qyb]<;>rfl)
 obtain⟨v9,h10,h⟩:=jz h
 cases h
 exact zp (by simp only[go_sem,seval,qj9,qtg,h8,qeo h10]<;>rfl)
theorem jsr (a0:Int)(a1:Int){s0:Int×Int}{d}(h:itO (q1k a0 a1) s0=some d):X pr (.loop qj9) (qtg a0 a1 s0)=some (qyb a0 a1 d):=yo (jv0 a0 a1) (fun d hh=>by cases hh) h
def qxw (a0:Int)(a1:Int)(s0:Int×Int):Option ((Int×Int)⊕((Int×Int))):=
 cond (decide (s0.2=0))
  (some (.inr (s0.1,s0.2)))
  (j5 (qmd s0.1 s0.2) fun v24=>
  some (.inl (s0.2,v24)))
def qoo (a0:Int)(a1:Int)(s0:Int×Int):qc:=⟨[(0,Iv a0,false),(1,Iv a1,false),(4,.ptr 0 0,false),(5,Iv s0.1,false),(6,Iv s0.2,false)],[.cells [(Iv 0,false),(Iv 0,false)]]⟩
def qt6 (a0:Int)(a1:Int)(d:(Int×Int)):qi×qc:=(.exit 0,⟨[(0,Iv a0,false),(1,Iv a1,false),(4,.ptr 0 0,false),(5,Iv d.1,false),(6,Iv d.2,false),(19,.bool false,false)],[.cells [(Iv 0,false),(Iv 0,false)]]⟩)
theorem jmd (a0:Int)(a1:Int)(s0:Int×Int)(r)(h:qxw a0 a1 s0=some r):yh pr qj9 (qoo a0 a1) (qt6 a0 a1) s0 r:=by
 unfold qxw at h
 rcases j0 h with⟨h23,h⟩|⟨h23,h⟩
 ·cases h
  exact j8 (by simp only[go_sem,seval,qj9,qoo,h23,qt6]<;>rfl)
 obtain⟨v24,h25,h⟩:=jz h
 cases h
 exact zp (by simp only[go_sem,seval,qj9,qoo,h23,qeo h25]<;>rfl)
theorem jlh (a0:Int)(a1:Int){s0:Int×Int}{d}(h:itO (qxw a0 a1) s0=some d):X pr (.loop qj9) (qoo a0 a1 s0)=some (qt6 a0 a1 d):=yo (jmd a0 a1) (fun d hh=>by cases hh) h
def f66 (a0:Int)(a1:Int):Option qh:=
 cond (decide (a1<0))
  (j5 (itO (q1k a0 a1) (max (za .i64 (0-a0)) (za .i64 (0-(za .i64 (0-a0)))),za .i64 (0-a1))) fun d11=>
  j5 (qey .i64 (za .i64 (0-a0)) d11.1) fun v13=>
  j5 (qey .i64 (za .i64 (0-a1)) d11.1) fun v15=>
  some (⟨v13,v15⟩))
  (j5 (itO (qxw a0 a1) (max a0 (za .i64 (0-a0)),a1)) fun d26=>
  j5 (qey .i64 a0 d26.1) fun v28=>
  j5 (qey .i64 a1 d26.1) fun v30=>
  some (⟨v28,v30⟩))
theorem W66 {a0:Int}{a1:Int}{r}(h:f66 a0 a1=some r):j7 pr (X pr) 66 [Iv a0,Iv a1]=some (.agg [Iv r.num,Iv r.den],false):=by
 unfold f66 at h
 rcases j0 h with⟨h1,h⟩|⟨h1,h⟩
 ·obtain⟨d11,h12,h⟩:=jz h
  have wh12:=jsr a0 a1 h12
  dsimp only[qtg,qyb]at wh12
  obtain⟨v13,h14,h⟩:=jz h
  obtain⟨v15,h16,h⟩:=jz h
  obtain rfl:=oi h
  refine zg c66 ?_
  simp only[go_sem,seval,c66,h1,wh12,qaz h14,qaz h16]
  exact⟨_,rfl⟩
 obtain⟨d26,h27,h⟩:=jz h
 have wh27:=jlh a0 a1 h27
 dsimp only[qoo,qt6]at wh27
 obtain⟨v28,h29,h⟩:=jz h
 obtain⟨v30,h31,h⟩:=jz h
 obtain rfl:=oi h
 refine zg c66 ?_
 simp only[go_sem,seval,c66,h1,wh27,qaz h29,qaz h31]
 exact⟨_,rfl⟩
def f130 (a0:qh):Option Int:=
 some (za .i64 ((za .i64 (a0.num*a0.num))+(za .i64 (a0.den*a0.den))))
theorem jj5 {a0:qh}{r}(h:f130 a0=some r):j7 pr (X pr) 130 [.agg [Iv a0.num,Iv a0.den]]=some (Iv r,false):=by
 unfold f130 at h
 obtain rfl:=oi h
 refine zg c130 ?_
 simp only[go_sem,seval,c130]
 exact⟨_,rfl⟩
def f170 (a0:List UInt8)(a1:qh):Option qr:=
 cond (decide (a0=([115,101,114,105,101,115]:List UInt8)))
  (j5 (f166) fun v2=>
  j5 (f168) fun v4=>
  some (⟨v2.num,v2.den,a1.num,a1.den,v4.num,v4.den,v2.num,v2.den⟩))
  (cond (decide (a0=([115,104,117,110,116]:List UInt8)))
   (j5 (f166) fun v7=>
   j5 (f168) fun v9=>
   some (⟨v7.num,v7.den,v9.num,v9.den,a1.num,a1.den,v7.num,v7.den⟩))
   (cond (decide (a0=([98,108,111,99,107]:List UInt8)))
    (j5 (f166) fun v12=>
    j5 (f168) fun v14=>
    some (⟨a1.num,a1.den,v12.num,v12.den,v14.num,v14.den,a1.num,a1.den⟩))
    (j5 (f168) fun v16=>
    j5 (f166) fun v18=>
    some (⟨a1.num,a1.den,v16.num,v16.den,v18.num,v18.den,a1.num,a1.den⟩))))
theorem j3r {a0:List UInt8}{a1:qh}{r}(h:f170 a0 a1=some r):j7 pr (X pr) 170 [.str a0,.agg [Iv a1.num,Iv a1.den]]=some (.agg [Iv r.m0,Iv r.m1,Iv r.m2,Iv r.m3,Iv r.m4,Iv r.m5,Iv r.m6,Iv r.m7],false):=by
 unfold f170 at h
 rcases j0 h with⟨h1,h⟩|⟨h1,h⟩
 ·obtain⟨v2,h3,h⟩:=jz h
  obtain⟨v4,h5,h⟩:=jz h
  obtain rfl:=oi h
  refine zg c170 ?_
  simp only[go_sem,seval,c170,h1,qyt h3,qv5 h5]
  exact⟨_,rfl⟩
 rcases j0 h with⟨h6,h⟩|⟨h6,h⟩
 ·obtain⟨v7,h8,h⟩:=jz h
  obtain⟨v9,h10,h⟩:=jz h
  obtain rfl:=oi h
  refine zg c170 ?_
  simp only[go_sem,seval,c170,h1,h6,qyt h8,qv5 h10]
  exact⟨_,rfl⟩
 rcases j0 h with⟨h11,h⟩|⟨h11,h⟩
 ·obtain⟨v12,h13,h⟩:=jz h
  obtain⟨v14,h15,h⟩:=jz h
  obtain rfl:=oi h
  refine zg c170 ?_
  simp only[go_sem,seval,c170,h1,h6,h11,qyt h13,qv5 h15]
  exact⟨_,rfl⟩
 obtain⟨v16,h17,h⟩:=jz h
 obtain⟨v18,h19,h⟩:=jz h
 obtain rfl:=oi h
 refine zg c170 ?_
 simp only[go_sem,seval,c170,h1,h6,h11,qv5 h17,qyt h19]
 exact⟨_,rfl⟩
theorem wr0:za .i64 0=0:=by decide
theorem wr1:za .i64 1=1:=by decide
theorem wr2:za .i64 2=2:=by decide
theorem wr3:za .i64 3=3:=by decide
theorem wr4:za .i64 4=4:=by decide
theorem jny {e:Env}{a b:qv}:gc 2 ⟨e,[a,b]⟩=⟨e,[a,b]⟩:=qks (Nat.le_refl _)
def f169 (a0:qr)(a1:qr):Option qr:=
 j5 (f63 (⟨a0.m0,a0.m1⟩) (⟨a1.m0,a1.m1⟩)) fun v1=>
 j5 (f63 (⟨a0.m2,a0.m3⟩) (⟨a1.m4,a1.m5⟩)) fun v3=>
 j5 (f64 v1 v3) fun v5=>
 j5 (f63 (⟨a0.m0,a0.m1⟩) (⟨a1.m2,a1.m3⟩)) fun v7=>
 j5 (f63 (⟨a0.m2,a0.m3⟩) (⟨a1.m6,a1.m7⟩)) fun v9=>
 j5 (f64 v7 v9) fun v11=>
 j5 (f63 (⟨a0.m4,a0.m5⟩) (⟨a1.m0,a1.m1⟩)) fun v13=>
 j5 (f63 (⟨a0.m6,a0.m7⟩) (⟨a1.m4,a1.m5⟩)) fun v15=>
 j5 (f64 v13 v15) fun v17=>
 j5 (f63 (⟨a0.m4,a0.m5⟩) (⟨a1.m2,a1.m3⟩)) fun v19=>
 j5 (f63 (⟨a0.m6,a0.m7⟩) (⟨a1.m6,a1.m7⟩)) fun v21=>
 j5 (f64 v19 v21) fun v23=>
 some (⟨v5.num,v5.den,v11.num,v11.den,v17.num,v17.den,v23.num,v23.den⟩)
theorem jzs {a0:qr}{a1:qr}{r}(h:f169 a0 a1=some r):j7 pr (X pr) 169 [.agg [Iv a0.m0,Iv a0.m1,Iv a0.m2,Iv a0.m3,Iv a0.m4,Iv a0.m5,Iv a0.m6,Iv a0.m7],.agg [Iv a1.m0,Iv a1.m1,Iv a1.m2,Iv a1.m3,Iv a1.m4,Iv a1.m5,Iv a1.m6,Iv a1.m7]]=some (.agg [Iv r.m0,Iv r.m1,Iv r.m2,Iv r.m3,Iv r.m4,Iv r.m5,Iv r.m6,Iv r.m7],false):=by
 unfold f169 at h
 obtain⟨v1,h2,h⟩:=jz h
 have wh2:=W63 h2
 obtain⟨v3,h4,h⟩:=jz h
 have wh4:=W63 h4
 obtain⟨v5,h6,h⟩:=jz h
 have wh6:=W64 h6
 obtain⟨v7,h8,h⟩:=jz h
 have wh8:=W63 h8
 obtain⟨v9,h10,h⟩:=jz h
 have wh10:=W63 h10
 obtain⟨v11,h12,h⟩:=jz h
 have wh12:=W64 h12
 obtain⟨v13,h14,h⟩:=jz h
 have wh14:=W63 h14
 obtain⟨v15,h16,h⟩:=jz h
 have wh16:=W63 h16
 obtain⟨v17,h18,h⟩:=jz h
 have wh18:=W64 h18
 obtain⟨v19,h20,h⟩:=jz h
 have wh20:=W63 h20
 obtain⟨v21,h22,h⟩:=jz h
 have wh22:=W63 h22
 obtain⟨v23,h24,h⟩:=jz h
 have wh24:=W64 h24
 have hr:⟨v5.num,v5.den,v11.num,v11.den,v17.num,v17.den,v23.num,v23.den⟩=r:=Option.some.inj h
 subst hr
 have this:∃hh,yk pr (X pr) 169 [.agg [Iv a0.m0,Iv a0.m1,Iv a0.m2,Iv a0.m3,Iv a0.m4,Iv a0.m5,Iv a0.m6,Iv a0.m7],.agg [Iv a1.m0,Iv a1.m1,Iv a1.m2,Iv a1.m3,Iv a1.m4,Iv a1.m5,Iv a1.m6,Iv a1.m7]] []=some (.agg [Iv v5.num,Iv v5.den,Iv v11.num,Iv v11.den,Iv v17.num,Iv v17.den,Iv v23.num,Iv v23.den],false,hh):=by
  rw[qak (show pr.fns 169=some c169 from rfl) (by simp)]
  simp only[c169,q9u,jbl]
  simp only[go_sem,seval,q6h,jny,wr0,wr1,wr2,wr3,wr4,wh2,wh4,wh6,wh8,wh10,wh12,wh14,wh16,wh18,wh20,wh22,wh24]
  exact⟨_,rfl⟩
 obtain⟨hh,this⟩:=this
 exact qd7 rfl this (by first|rfl|simp only[go_sem,seval]) (by first|rfl|simp only[go_sem,seval])
def pcL:qe→qe
 | .seq a _=>a
 |x=>x
def pcR:qe→qe
 | .seq _ b=>b
 |x=>x
def pcB:qe→qe
 | .block _ b=>b
 |x=>x
def rfA:qe→qe
 | .rangeFunc _ _ a _=>a
 |x=>x
def rfB:qe→qe
 | .rangeFunc _ _ _ b=>b
 |x=>x
theorem qve {n:Nat}{v:qa}{h:zd}(hn:h.length=n):qag n v h=h:=by
 unfold qag
 rw[Nat.ble_eq_true_of_le (by omega)];rfl
theorem qpz {n:Nat}{v:qa}{h t:zd}(hn:h.length=n)(hv:Abs.below n v=true)(hb:yt n h=true):qag n v (h++t)=h:=by
 have ht:(h++t).take n=h:=by rw[←hn,List.take_left'];rfl
 unfold qag
 rw[ht,hv,hb]
 cases hc:Nat.ble (h++t).length n with
 |false=>rfl
 |true=>
  have:=Nat.le_of_ble_eq_true hc
  rw[List.length_append]at this
  have h0:t=[]:=List.length_eq_zero_iff.1 (by omega)
  subst h0
  simp
def mcs (m:qr):List (qa×Bool):=[(.int .i64 m.m0,false),(.int .i64 m.m1,false),(.int .i64 m.m2,false),(.int .i64 m.m3,false),(.int .i64 m.m4,false),(.int .i64 m.m5,false),(.int .i64 m.m6,false),(.int .i64 m.m7,false)]
def gcs (d:qh):List (qa×Bool):=[(.int .i64 d.num,false),(.int .i64 d.den,false)]
def qmr:qe:=pcB (pcR (pcL (pcR (pcR c173.body))))
def qkh:qe:=rfA qmr
def qid:qe:=rfB qmr
theorem jew:qmr=.rangeFunc (.tmp 18) [19,20] qkh qid:=rfl
section
variable (l:Option (List qk))(w:Int)
def qe3:Env:=[(4,.ptr 0 0,false),(5,.ptr 1 0,false),(6,.ptr 2 0,false),(7,.ptr 3 0,false),(18,.fn (.func 233) [] [.vptr (sl 3 vel l),.vptr (.int .i64 w)],false)]
def z2:List (qa×Bool):=[(.int .i64 0,false),(.int .i64 0,false)]
def z8:List (qa×Bool):=[(.int .i64 0,false),(.int .i64 0,false),(.int .i64 0,false),(.int .i64 0,false),(.int .i64 0,false),(.int .i64 0,false),(.int .i64 0,false),(.int .i64 0,false)]
def qso (m:qr)(d:qh):zd:=[.cells z8,.cells z2,.cells (mcs m),.cells (gcs d)]
def qbp (m:qr)(d:qh)(pd:Option qi)(t:zd):zd:=.cells z8::.cells z2::.cells (mcs m)::.cells (gcs d)::.loop ⟨qe3 l w,[19,20],qkh,qid,pd⟩::t
def ke (s:List UInt8)(b:Bool)(n:Nat):qa:=.agg [.str s,.bool b,.fn (.func n) [] []]
def ga (v:qh):qa:=.agg [.int .i64 v.num,.int .i64 v.den]
def tl (s:List UInt8)(b:Bool)(n:Nat)(v:qh):zd:=[.cells [(.str s,false),(.bool b,false),(.fn (.func n) [] [],false)],.cells (gcs v)]
def t2 (x:qk):zd:=[.map qap,.cells [(.str x.kind,false),(.int .i64 x.a,false),(.int .i64 x.b,false)]]
def q1b:Env:=[(4,.ptr 0 0,false),(5,.ptr 1 0,false),(6,.ptr 2 0,false),(7,.ptr 3 0,false),(8,.ptr 7 0,false),(9,.ptr 8 0,false)]
variable {l w}
theorem jb1 {s b n}{v m d}{x:qk}:X pr qkh ⟨(20,ga v,false)::(19,ke s b n,false)::qe3 l w,qbp l w m d none (t2 x)⟩=some (.normal,⟨q1b,qbp l w m d none (t2 x++tl s b n v)⟩):=by
 simp only[go_sem,seval,qkh,rfA,qmr,pcB,pcL,pcR,c173,qe3,ke,ga,qbp,t2]<;>rfl
theorem q9z {s b n}{v c m m1:_}{d d1:qh}{x:qk}{pd}(h1:j7 pr (X pr) n [ga v]=some (.agg [.int .i64 c.m0,.int .i64 c.m1,.int .i64 c.m2,.int .i64 c.m3,.int .i64 c.m4,.int .i64 c.m5,.int .i64 c.m6,.int .i64 c.m7],false))
  (h2:f206 m c=some m1) (h3:cond b (f207 d v) (some d)=some d1):∃e,X pr qid ⟨q1b,qbp l w m d pd (t2 x++tl s b n v)⟩=some (.normal,⟨e,qbp l w m1 d1 pd (t2 x++tl s b n v)⟩):=by
 have g2:=j2c h2
 simp only[ga]at h1
 cases b with
 |true=>
  have g3:=qrf (show f207 d v=some d1 from h3)
  simp only[go_sem,seval,qid,rfB,qmr,pcB,pcL,pcR,c173,q1b,qbp,t2,tl,mcs,gcs,h1,g2,g3]
  exact⟨_,rfl⟩
 |false=>
  obtain rfl:d=d1:=Option.some.inj h3
  simp only[go_sem,seval,qid,rfB,qmr,pcB,pcL,pcR,c173,q1b,qbp,t2,tl,mcs,gcs,h1,g2]
  exact⟨_,rfl⟩
theorem q8f:qa9 7 (qe3 l w)=true:=by
 have hb:Abs.below 7 (sl 3 vel l)=true:=by simp only[go_sem,seval]
 have h1:yq 7 [.vptr (sl 3 vel l),.vptr (.int .i64 w)]=true:=by
  show(Abs.below 7 (sl 3 vel l)&&true)=true
  rw[hb];rfl
 have h2:Abs.below 7 (.fn (.func 233) [] [.vptr (sl 3 vel l),.vptr (.int .i64 w)])=true:=by
  show(true&&yq 7 [.vptr (sl 3 vel l),.vptr (.int .i64 w)])=true
  rw[h1];rfl
 simp only[qe3,qa9,List.all_cons,List.all_nil,h2]
 rfl
theorem q4s:qa9 6 (qe3 l w)=true:=by
 have hb:Abs.below 6 (sl 3 vel l)=true:=by simp only[go_sem,seval]
 have h1:yq 6 [.vptr (sl 3 vel l),.vptr (.int .i64 w)]=true:=by
  show(Abs.below 6 (sl 3 vel l)&&true)=true
  rw[hb];rfl
 have h2:Abs.below 6 (.fn (.func 233) [] [.vptr (sl 3 vel l),.vptr (.int .i64 w)])=true:=by
  show(true&&yq 6 [.vptr (sl 3 vel l),.vptr (.int .i64 w)])=true
  rw[h1];rfl
 simp only[qe3,qa9,List.all_cons,List.all_nil,h2]
 rfl
theorem q7j {m d pd}{x:qk}:yt 7 (qbp l w m d pd (t2 x))=true:=by
 simp only[qbp,t2,yt,List.all_cons,List.all_nil,qbb,q8f,mcs,gcs,z8,z2,qap]
 rfl
theorem j11 {s b n}{v c m m1:_}{d d1:qh}{x:qk}(h1:j7 pr (X pr) n [ga v]=some (.agg [.int .i64 c.m0,.int .i64 c.m1,.int .i64 c.m2,.int .i64 c.m3,.int .i64 c.m4,.int .i64 c.m5,.int .i64 c.m6,.int .i64 c.m7],false))
  (h2:f206 m c=some m1) (h3:cond b (f207 d v) (some d)=some d1):qbm (X pr) 4 [ke s b n,ga v] (qbp l w m d none (t2 x))=some (.bool true,qbp l w m1 d1 none (t2 x)):=by
 have g:∀m d pd t,qam (qbp l w m d pd t) 4=some (.loop ⟨qe3 l w,[19,20],qkh,qid,pd⟩):=fun _ _ _ _=>rfl
 have se:qfn (noOwn (qe3 l w)) [19,20] [ke s b n,ga v]=some ((20,ga v,false)::(19,ke s b n,false)::qe3 l w):=rfl
 have st:∀m d pd pd' t,(qbp l w m d pd t).set 4 (.loop ⟨qe3 l w,[19,20],qkh,qid,pd'⟩)=qbp l w m d pd' t:=fun _ _ _ _ _=>rfl
 have hl:∀m d pd,(qbp l w m d pd (t2 x)).length=7:=fun _ _ _=>rfl
 have ha:∀m d pd v t,Abs.below 7 v=true→qag 7 v (qbp l w m d pd (t2 x++t))=qbp l w m d pd (t2 x):=fun m d pd v t hv=>qpz (h:=qbp l w m d pd (t2 x)) rfl hv q7j
 obtain⟨e,hb⟩:=q9z (l:=l) (w:=w) (s:=s) (x:=x) (pd:=some .normal) h1 h2 h3
 unfold qbm
 simp only[g,se,jb1,Option.isNone_none,cT,st,hl,hb]
 rw[ha _ _ _ _ _ rfl]
end
def kOf (s:List UInt8)(v:qh):Option (qr×Bool):=
 cond (decide (s=([98,108,111,99,107]:List UInt8))) (j5 (f218 v) fun c=>some (c,true))
  (cond (decide (s=([115,101,114,105,101,115]:List UInt8))) (j5 (f219 v) fun c=>some (c,false))
  (cond (decide (s=([115,104,117,110,116]:List UInt8))) (j5 (f220 v) fun c=>some (c,false))
   (cond (decide (s=([116,114,97,112]:List UInt8))) (j5 (f221 v) fun c=>some (c,true)) none)))
theorem jhj {s:List UInt8}{v:qh}{c b}(h:kOf s v=some (c,b)):∃t k n,y8 .str (.str s) qap 0=some (some (t,ke k b n))∧j7 pr (X pr) n [ga v]=some (.agg [.int .i64 c.m0,.int .i64 c.m1,.int .i64 c.m2,.int .i64 c.m3,.int .i64 c.m4,.int .i64 c.m5,.int .i64 c.m6,.int .i64 c.m7],false):=by
 unfold kOf at h
 rcases j0 h with⟨h1,k⟩|⟨h1,k⟩
 ·obtain⟨c',h2,k⟩:=jz k
  cases k
  exact⟨_,_,_,qwz h1,j15 h2⟩
 rcases j0 k with⟨h2,k⟩|⟨h2,k⟩
 ·obtain⟨c',h3,k⟩:=jz k
  cases k
  exact⟨_,_,_,q8x h1 h2,j21 h3⟩
 rcases j0 k with⟨h3,k⟩|⟨h3,k⟩
 ·obtain⟨c',h4,k⟩:=jz k
  cases k
  exact⟨_,_,_,q86 h1 h2 h3,j3p h4⟩
 rcases j0 k with⟨h4,k⟩|⟨h4,k⟩
 ·obtain⟨c',h5,k⟩:=jz k
  cases k
  exact⟨_,_,_,qyp h1 h2 h3 h4,j2j h5⟩
 ·cases k
def q1r (w:Int)(q:qr×qh)(x:qk):Option (qr×qh):=
 j5 (kOf x.kind ⟨x.a,za .i64 (w*x.b)⟩) fun c=>j5 (f206 q.1 c.1) fun m=>j5 (cond c.2 (f207 q.2 ⟨x.a,za .i64 (w*x.b)⟩) (some q.2)) fun d=>some (m,d)
def qm5 (w:Int):List qk→qr×qh→Option (qr×qh)
 | [],q=>some q
 |x::l,q=>j5 (q1r w q x) fun q'=>qm5 w l q'
def q11 (w:Int)(l:Option (List qk))(d:Int×qr×qh):Option ((Int×qr×qh)⊕(Int×qr×qh)):=
 cond (decide (d.1<((l.getD []).length:Int))) (j5 (yd (l.getD []) d.1) fun x=>j5 (q1r w d.2 x) fun q=>some (.inl (za .i64 (d.1+1),q))) (some (.inr d))
def qwq (w:Int)(l:Option (List qk))(d:Int×qr×qh):qc:=⟨[(0,.fn (.yield 4) [] [],false),(2,.vptr (.int .i64 w),false),(4,.map 5,false),(8,sl 3 vel l,false),(9,.int .i64 ((l.getD []).length:Int),false),(10,.int .i64 d.1,false)],qbp l w d.2.1 d.2.2 none [.map qap]⟩
def q1c (w:Int)(l:Option (List qk))(d:Int×qr×qh):qi×qc:=(.exit 0,⟨[(0,.fn (.yield 4) [] [],false),(2,.vptr (.int .i64 w),false),(4,.map 5,false),(8,sl 3 vel l,false),(9,.int .i64 ((l.getD []).length:Int),false),(10,.int .i64 d.1,false),(11,.bool false,false)],qbp l w d.2.1 d.2.2 none [.map qap]⟩)
theorem j0o {w:Int}{l:Option (List qk)}(d:Int×qr×qh)(r)(h:q11 w l d=some r):yh pr qst (qwq w l) (q1c w l) d r:=by
 obtain⟨i,m,e⟩:=d
 unfold q11 at h
 dsimp only at h
 rcases j0 h with⟨h1,k⟩|⟨h1,k⟩
 ·obtain⟨x,h2,k⟩:=jz k
  obtain⟨q,h3,k⟩:=jz k
  cases k
  unfold q1r at h3
  obtain⟨⟨c,b⟩,h4,k⟩:=jz h3
  obtain⟨m1,h5,k⟩:=jz k
  obtain⟨d1,h6,k⟩:=jz k
  cases k
  obtain⟨t,kk,n,g1,g2⟩:=jhj h4
  have hy:=j11 (l:=l) (w:=w) (s:=kk) (x:=x) g2 h5 h6
  simp only[qbp,t2,ke,ga]at hy g1
  refine qex (st':=⟨[(0,.fn (.yield 4) [] [],false),(2,.vptr (.int .i64 w),false),(4,.map 5,false),(8,sl 3 vel l,false),(9,.int .i64 ((l.getD []).length:Int),false),(10,.int .i64 (za .i64 (i+1)),false)],qbp l w m1 d1 none (t2 x)⟩) (by simp only[go_sem,seval,qst,qwq,qbp,t2,h1,zf h2,g1,hy]<;>rfl) ?_
  exact qtn (h:=qbp l w m1 d1 none [.map qap]) (h':=[.cells [(.str x.kind,false),(.int .i64 x.a,false),(.int .i64 x.b,false)]]) rfl rfl (by
   have hb:Abs.below 6 (sl 3 vel l)=true:=by simp only[go_sem,seval]
   show((true&&true)&&((true&&true)&&(true&&(Abs.below 6 (sl 3 vel l)&&(true&&(true&&true))))))=true
   rw[hb];rfl) (by
   show yt 6 _=true
   simp only[qbp,yt,List.all_cons,List.all_nil,qbb,q4s,mcs,gcs,z8,z2,qap]
   rfl)
 ·cases k
  exact j8 (by simp only[go_sem,seval,qst,qwq,qbp,h1,q1c]<;>rfl)
theorem jf1 {w:Int}{l:Option (List qk)}(hl:(l.getD []).length≤5):∀ {k:Nat} {i:Nat} {q r:qr×qh},(l.getD []).length=i+k→qm5 w ((l.getD []).drop i) q=some r→itO (q11 w l) ((i:Int),q)=some (((l.getD []).length:Int),r)
 |0,i,q,r,hk,h=>by
  rw[List.drop_eq_nil_of_le (by omega)]at h
  cases h
  have hd:decide ((i:Int)<((l.getD []).length:Int))=false:=dF (by omega)
  rw[qab (d:=((i:Int),q)) (by simp only[q11,hd,cF]),show(i:Int)=((l.getD []).length:Int) by omega]
 |k+1,i,q,r,hk,h=>by
  have hi:i<(l.getD []).length:=by omega
  have hx:(l.getD [])[i]?=some (l.getD [])[i]:=List.getElem?_eq_getElem hi
  rw[kl hx]at h
  simp only[qm5]at h
  obtain⟨q1,h1,h2⟩:=jz h
  have hd:decide ((i:Int)<((l.getD []).length:Int))=true:=dT (by omega)
  have hw:za .i64 ((i:Int)+1)=((i+1:Nat):Int):=by
   have:i≤4:=by omega
   match i,this with
   |0,_=>rfl
   |1,_=>rfl
   |2,_=>rfl
   |3,_=>rfl
   |4,_=>rfl
  rw[qbi (s':=(((i+1:Nat):Int),q1)) (by simp only[q11,hd,cT,qgg,hx,j5,h1,hw])]
  exact jf1 hl (k:=k) (i:=i+1) (by omega) h2
section
variable {l:Option (List qk)}{w:Int}{m m1:qr}{d d1:qh}
theorem jz9 (hl:(l.getD []).length≤5)(h:qm5 w (l.getD []) (m,d)=some (m1,d1)):∃t,yk pr (X pr) 233 [.fn (.yield 4) [] [],.vptr (sl 3 vel l),.vptr (.int .i64 w)] (qbp l w m d none [])=some (.tup [],false,qbp l w m1 d1 none t):=by
 have h0:=jf1 (k:=(l.getD []).length) (i:=0) hl (by omega) (by rw[List.drop_zero];exact h)
 have h1:X pr (.loop qst) (qwq w l (0,m,d))=some (q1c w l (((l.getD []).length:Int),m1,d1)):=yo j0o (fun d=>by intro hh;cases hh) h0
 rw[qak (show pr.fns 233=some c233 from rfl) (by simp)]
 have hm:pr.maps 193=some qap:=rfl
 simp only[qwq,q1c,qbp]at h1 ⊢
 simp only[go_sem,seval,c233,h1,hm]
 exact⟨_,rfl⟩
theorem jco (hl:(l.getD []).length≤5)(h:qm5 w (l.getD []) (m,d)=some (m1,d1)):X pr qmr ⟨qe3 l w,qso m d⟩=some (.normal,⟨qe3 l w,qso m1 d1⟩):=by
 obtain⟨t,h1⟩:=jz9 hl h
 have hb:∀m d,yt 4 (qso m d)=true:=by
  intro m d
  simp only[qso,yt,List.all_cons,List.all_nil,qbb,mcs,gcs,z8,z2]
  rfl
 rw[jew,qzz]
 unfold qc6
 have hn:(qac qkh&&qac qid)=true:=rfl
 have he:zc (qe3 l w) (.tmp 18)=some (.fn (.func 233) [] [.vptr (sl 3 vel l),.vptr (.int .i64 w)]):=rfl
 have hl:∀m d,(qso m d).length=4:=fun _ _=>rfl
 have hap:qso m d++[.loop ⟨qe3 l w,[19,20],qkh,qid,none⟩]=qbp l w m d none []:=rfl
 have hg:qam (qbp l w m1 d1 none t) 4=some (.loop ⟨qe3 l w,[19,20],qkh,qid,none⟩):=rfl
 have ht:(qbp l w m1 d1 none t).take 4=qso m1 d1:=rfl
 simp only[hn,cT,he,hl,List.nil_append,List.cons_append,hap,h1,hg,ht,hb]
end
def jb2:qe:=pcL c173.body
def jao:qe:=pcL (pcR c173.body)
def jb0:qe:=pcL (pcL (pcR (pcR c173.body)))
def jb3:qe:=pcR (pcR (pcR c173.body))
def f173 (l:Option (List qk))(w:Int):Option (qr×qh):=cond (decide ((l.getD []).length≤5)) (qm5 w (l.getD []) (⟨1,0,0,0,0,0,1,0⟩,⟨1,0⟩)) none
theorem j1m {l:Option (List qk)}{w:Int}:j7 pr (X pr) 205 [sl 3 vel l,.int .i64 w]=some (.fn (.func 233) [] [.vptr (sl 3 vel l),.vptr (.int .i64 w)],false):=by
 have this:∃hh,yk pr (X pr) 205 [sl 3 vel l,.int .i64 w] []=some (.fn (.func 233) [] [.vptr (sl 3 vel l),.vptr (.int .i64 w)],false,hh):=by
  rw[qak (show pr.fns 205=some c205 from rfl) (by simp)]
  simp only[go_sem,seval,c205]
  exact⟨_,rfl⟩
 obtain⟨hh,this⟩:=this
 have hb:Abs.below 0 (sl 3 vel l)=true:=by simp only[go_sem,seval]
 have hp:Abs.below 0 (.fn (.func 233) [] [.vptr (sl 3 vel l),.vptr (.int .i64 w)])=true:=by
  show(true&&(Abs.below 0 (sl 3 vel l)&&true))=true
  rw[hb];rfl
 exact qd7 rfl this (by first|rfl|simp only[go_sem,seval]) (by first|exact hp|simp only[go_sem,seval])
theorem j0d {l:Option (List qk)}{w:Int}{r}(h:f173 l w=some r):j7 pr (X pr) 173 [sl 3 vel l,.int .i64 w]=some (.tup [.agg [.int .i64 r.1.m0,.int .i64 r.1.m1,.int .i64 r.1.m2,.int .i64 r.1.m3,.int .i64 r.1.m4,.int .i64 r.1.m5,.int .i64 r.1.m6,.int .i64 r.1.m7],.agg [.int .i64 r.2.num,.int .i64 r.2.den]],false):=by
 unfold f173 at h
 rcases j0 h with⟨h1,k⟩|⟨h1,k⟩
 ·obtain⟨m,d⟩:=r
  have hx:=jco (by simpa using h1) k
  have g205:=j1m (l:=l) (w:=w)
  have this:∃hh,yk pr (X pr) 173 [sl 3 vel l,.int .i64 w] []=some (.tup [.agg [.int .i64 m.m0,.int .i64 m.m1,.int .i64 m.m2,.int .i64 m.m3,.int .i64 m.m4,.int .i64 m.m5,.int .i64 m.m6,.int .i64 m.m7],.agg [.int .i64 d.num,.int .i64 d.den]],false,hh):=by
   rw[qak (show pr.fns 173=some ⟨34,.seq jb2 (.seq jao (.seq (.seq jb0 (.block 0 qmr)) jb3)),[.cell 4 true 8,.cell 5 true 2]⟩from rfl) (by simp)]
   simp only[qe3,qso,mcs,gcs,z8,z2]at hx
   simp only[go_sem,seval,jb2,jao,jb0,jb3,pcL,pcR,c173,g205,hx]
   exact⟨_,rfl⟩
  obtain⟨hh,this⟩:=this
  exact qd7 rfl this (by first|rfl|simp only[go_sem,seval]) (by first|rfl|simp only[go_sem,seval])
 ·cases k
end Go.Z
end
