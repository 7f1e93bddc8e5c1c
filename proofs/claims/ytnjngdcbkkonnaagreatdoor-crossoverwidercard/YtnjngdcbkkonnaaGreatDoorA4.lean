/- Chapter 4. -/
import Derived.Test.YtnjngdcbkkonnaaGreatDoorA1
set_option linter.unusedVariables false
set_option linter.unusedSimpArgs false
set_option maxRecDepth 100000
set_option maxHeartbeats 4000000
noncomputable section
namespace Go.Z
open Go Go.Abs
def f175 (a0:qh):Option Int:=
 some (j9 .i64 ((j9 .i64 (a0.num*a0.num))+(j9 .i64 (a0.den*a0.den))))
theorem jl8 {a0:qh}{r}(h:f175 a0=some r):zb pr (X pr) 175 [.agg [Iv a0.num,Iv a0.den]]=some (Iv r,false):=by
 unfold f175 at h
 obtain rfl:=oi h
 refine zk c175 ?_
 simp only[go_sem,seval,c175]
 exact⟨_,rfl⟩
def f207 (a0:qh)(a1:qh):Option qh:=
 some (⟨j9 .i64 ((j9 .i64 (a0.num*a1.num))-(j9 .i64 (a0.den*a1.den))),j9 .i64 ((j9 .i64 (a0.num*a1.den))+(j9 .i64 (a0.den*a1.num)))⟩)
theorem qqo {a0:qh}{a1:qh}{r}(h:f207 a0 a1=some r):zb pr (X pr) 207 [.agg [Iv a0.num,Iv a0.den],.agg [Iv a1.num,Iv a1.den]]=some (.agg [Iv r.num,Iv r.den],false):=by
 unfold f207 at h
 obtain rfl:=oi h
 refine zk c207 ?_
 simp only[go_sem,seval,c207]
 exact⟨_,rfl⟩
def f234 (a0:qh)(a1:qh):Option qh:=
 some (⟨j9 .i64 (a0.num+a1.num),j9 .i64 (a0.den+a1.den)⟩)
theorem jab {a0:qh}{a1:qh}{r}(h:f234 a0 a1=some r):zb pr (X pr) 234 [.agg [Iv a0.num,Iv a0.den],.agg [Iv a1.num,Iv a1.den]]=some (.agg [Iv r.num,Iv r.den],false):=by
 unfold f234 at h
 obtain rfl:=oi h
 refine zk c234 ?_
 simp only[go_sem,seval,c234]
 exact⟨_,rfl⟩
def f206 (a0:qr)(a1:qr):Option qr:=
 j5 (f207 (⟨a0.m0,a0.m1⟩) (⟨a1.m0,a1.m1⟩)) fun v1=>
 j5 (f207 (⟨a0.m2,a0.m3⟩) (⟨a1.m4,a1.m5⟩)) fun v3=>
 j5 (f234 v1 v3) fun v5=>
 j5 (f207 (⟨a0.m0,a0.m1⟩) (⟨a1.m2,a1.m3⟩)) fun v7=>
 j5 (f207 (⟨a0.m2,a0.m3⟩) (⟨a1.m6,a1.m7⟩)) fun v9=>
 j5 (f234 v7 v9) fun v11=>
 j5 (f207 (⟨a0.m4,a0.m5⟩) (⟨a1.m0,a1.m1⟩)) fun v13=>
 j5 (f207 (⟨a0.m6,a0.m7⟩) (⟨a1.m4,a1.m5⟩)) fun v15=>
 j5 (f234 v13 v15) fun v17=>
 j5 (f207 (⟨a0.m4,a0.m5⟩) (⟨a1.m2,a1.m3⟩)) fun v19=>
 j5 (f207 (⟨a0.m6,a0.m7⟩) (⟨a1.m6,a1.m7⟩)) fun v21=>
 j5 (f234 v19 v21) fun v23=>
 some (⟨v5.num,v5.den,v11.num,v11.den,v17.num,v17.den,v23.num,v23.den⟩)
theorem j21 {a0:qr}{a1:qr}{r}(h:f206 a0 a1=some r):zb pr (X pr) 206 [.agg [Iv a0.m0,Iv a0.m1,Iv a0.m2,Iv a0.m3,Iv a0.m4,Iv a0.m5,Iv a0.m6,Iv a0.m7],.agg [Iv a1.m0,Iv a1.m1,Iv a1.m2,Iv a1.m3,Iv a1.m4,Iv a1.m5,Iv a1.m6,Iv a1.m7]]=some (.agg [Iv r.m0,Iv r.m1,Iv r.m2,Iv r.m3,Iv r.m4,Iv r.m5,Iv r.m6,Iv r.m7],false):=by
 unfold f206 at h
 obtain⟨v1,h2,h⟩:=j0 h
 have wh2:=qqo h2
 obtain⟨v3,h4,h⟩:=j0 h
 have wh4:=qqo h4
 obtain⟨v5,h6,h⟩:=j0 h
 have wh6:=jab h6
 obtain⟨v7,h8,h⟩:=j0 h
 have wh8:=qqo h8
 obtain⟨v9,h10,h⟩:=j0 h
 have wh10:=qqo h10
 obtain⟨v11,h12,h⟩:=j0 h
 have wh12:=jab h12
 obtain⟨v13,h14,h⟩:=j0 h
 have wh14:=qqo h14
 obtain⟨v15,h16,h⟩:=j0 h
 have wh16:=qqo h16
 obtain⟨v17,h18,h⟩:=j0 h
 have wh18:=jab h18
 obtain⟨v19,h20,h⟩:=j0 h
 have wh20:=qqo h20
 obtain⟨v21,h22,h⟩:=j0 h
 have wh22:=qqo h22
 obtain⟨v23,h24,h⟩:=j0 h
 have wh24:=jab h24
 obtain rfl:=oi h
 refine zk c206 ?_
 simp only[go_sem,seval,c206,wh2,wh4,wh6,wh8,wh10,wh12,wh14,wh16,wh18,wh20,wh22,wh24]
 exact⟨_,rfl⟩
def f218 (a0:qh):Option qr:=
 some (⟨a0.num,a0.den,1,0,0,0,a0.num,a0.den⟩)
theorem j4a {a0:qh}{r}(h:f218 a0=some r):zb pr (X pr) 218 [.agg [Iv a0.num,Iv a0.den]]=some (.agg [Iv r.m0,Iv r.m1,Iv r.m2,Iv r.m3,Iv r.m4,Iv r.m5,Iv r.m6,Iv r.m7],false):=by
 unfold f218 at h
 obtain rfl:=oi h
 refine zk c218 ?_
 simp only[go_sem,seval,c218]
 exact⟨_,rfl⟩
def f219 (a0:qh):Option qr:=
 some (⟨1,0,a0.num,a0.den,0,0,1,0⟩)
theorem j0a {a0:qh}{r}(h:f219 a0=some r):zb pr (X pr) 219 [.agg [Iv a0.num,Iv a0.den]]=some (.agg [Iv r.m0,Iv r.m1,Iv r.m2,Iv r.m3,Iv r.m4,Iv r.m5,Iv r.m6,Iv r.m7],false):=by
 unfold f219 at h
 obtain rfl:=oi h
 refine zk c219 ?_
 simp only[go_sem,seval,c219]
 exact⟨_,rfl⟩
def f220 (a0:qh):Option qr:=
 some (⟨1,0,0,0,a0.num,a0.den,1,0⟩)
theorem jzt {a0:qh}{r}(h:f220 a0=some r):zb pr (X pr) 220 [.agg [Iv a0.num,Iv a0.den]]=some (.agg [Iv r.m0,Iv r.m1,Iv r.m2,Iv r.m3,Iv r.m4,Iv r.m5,Iv r.m6,Iv r.m7],false):=by
 unfold f220 at h
 obtain rfl:=oi h
 refine zk c220 ?_
 simp only[go_sem,seval,c220]
 exact⟨_,rfl⟩
def f221 (a0:qh):Option qr:=
 some (⟨a0.num,a0.den,0,0,1,0,a0.num,a0.den⟩)
theorem j06 {a0:qh}{r}(h:f221 a0=some r):zb pr (X pr) 221 [.agg [Iv a0.num,Iv a0.den]]=some (.agg [Iv r.m0,Iv r.m1,Iv r.m2,Iv r.m3,Iv r.m4,Iv r.m5,Iv r.m6,Iv r.m7],false):=by
 unfold f221 at h
 obtain rfl:=oi h
 refine zk c221 ?_
 simp only[go_sem,seval,c221]
 exact⟨_,rfl⟩
def qw3 (a0:Int)(a1:Int)(s0:Int×Int):Option ((Int×Int)⊕((Int×Int))):=
 cond (decide (s0.2=0))
  (some (.inr (s0.1,s0.2)))
  (j5 (qh8 s0.1 s0.2) fun v8=>
  some (.inl (s0.2,v8)))
def qoq (a0:Int)(a1:Int)(s0:Int×Int):qd:=⟨[(0,Iv a0,false),(1,Iv a1,false),(4,.ptr 0 0,false),(5,Iv s0.1,false),(6,Iv s0.2,false)],[.cells [(Iv 0,false),(Iv 0,false)]]⟩
def qtu (a0:Int)(a1:Int)(d:(Int×Int)):qj×qd:=(.exit 0,⟨[(0,Iv a0,false),(1,Iv a1,false),(4,.ptr 0 0,false),(5,Iv d.1,false),(6,Iv d.2,false),(10,.bool false,false)],[.cells [(Iv 0,false),(Iv 0,false)]]⟩)
theorem jor (a0:Int)(a1:Int)(s0:Int×Int)(r)(h:qw3 a0 a1 s0=some r):yt pr qrw (qoq a0 a1) (qtu a0 a1) s0 r:=by
 unfold qw3 at h
 rcases j4 h with⟨h7,h⟩|⟨h7,h⟩
 ·cases h
  exact zc (by simp only[go_sem,seval,qrw,qoq,h7,qtu]<;>rfl)
 obtain⟨v8,h9,h⟩:=j0 h
 cases h
 exact zq (by simp only[go_sem,seval,qrw,qoq,h7,qoi h9]<;>rfl)
theorem jn9 (a0:Int)(a1:Int){s0:Int×Int}{d}(h:itO (qw3 a0 a1) s0=some d):X pr (.loop qrw) (qoq a0 a1 s0)=some (qtu a0 a1 d):=kg (jor a0 a1) (fun d hh=>by cases hh) h
def f125 (a0:Int)(a1:Int):Option qh:=
 j5 (itO (qw3 a0 a1) (a0,a1)) fun d10=>
 j5 (qfc .i64 a0 d10.1) fun v12=>
 j5 (qfc .i64 a1 d10.1) fun v14=>
 some (⟨v12,v14⟩)
theorem j14 {a0:Int}{a1:Int}{r}(h:f125 a0 a1=some r):zb pr (X pr) 125 [Iv a0,Iv a1]=some (.agg [Iv r.num,Iv r.den],false):=by
 unfold f125 at h
 obtain⟨d10,h11,h⟩:=j0 h
 have wh11:=jn9 a0 a1 h11
 dsimp only[qoq,qtu]at wh11
 obtain⟨v12,h13,h⟩:=j0 h
 obtain⟨v14,h15,h⟩:=j0 h
 obtain rfl:=oi h
 refine zk c125 ?_
 simp only[go_sem,seval,c125,wh11,qck h13,qck h15]
 exact⟨_,rfl⟩
def qyn (a0:Int)(a1:Int)(s0:Int×Int):Option ((Int×Int)⊕((Int×Int))):=
 cond (decide (s0.2=0))
  (some (.inr (s0.1,s0.2)))
  (j5 (qh8 s0.1 s0.2) fun v8=>
  some (.inl (s0.2,v8)))
def qpg (a0:Int)(a1:Int)(s0:Int×Int):qd:=⟨[(0,Iv a0,false),(1,Iv a1,false),(4,.ptr 0 0,false),(5,Iv s0.1,false),(6,Iv s0.2,false)],[.cells [(Iv 0,false),(Iv 0,false)]]⟩
def qum (a0:Int)(a1:Int)(d:(Int×Int)):qj×qd:=(.exit 0,⟨[(0,Iv a0,false),(1,Iv a1,false),(4,.ptr 0 0,false),(5,Iv d.1,false),(6,Iv d.2,false),(10,.bool false,false)],[.cells [(Iv 0,false),(Iv 0,false)]]⟩)
theorem jpc (a0:Int)(a1:Int)(s0:Int×Int)(r)(h:qyn a0 a1 s0=some r):yt pr qrl (qpg a0 a1) (qum a0 a1) s0 r:=by
 unfold qyn at h
 rcases j4 h with⟨h7,h⟩|⟨h7,h⟩
 ·cases h
  exact zc (by simp only[go_sem,seval,qrl,qpg,h7,qum]<;>rfl)
 obtain⟨v8,h9,h⟩:=j0 h
 cases h
 exact zq (by simp only[go_sem,seval,qrl,qpg,h7,qoi h9]<;>rfl)
theorem jlo (a0:Int)(a1:Int){s0:Int×Int}{d}(h:itO (qyn a0 a1) s0=some d):X pr (.loop qrl) (qpg a0 a1 s0)=some (qum a0 a1 d):=kg (jpc a0 a1) (fun d hh=>by cases hh) h
def f174 (a0:Int)(a1:Int):Option qh:=
 j5 (itO (qyn a0 a1) (a0,a1)) fun d10=>
 j5 (qfc .i64 a0 d10.1) fun v12=>
 j5 (qfc .i64 a1 d10.1) fun v14=>
 some (⟨v12,v14⟩)
theorem j2l {a0:Int}{a1:Int}{r}(h:f174 a0 a1=some r):zb pr (X pr) 174 [Iv a0,Iv a1]=some (.agg [Iv r.num,Iv r.den],false):=by
 unfold f174 at h
 obtain⟨d10,h11,h⟩:=j0 h
 have wh11:=jlo a0 a1 h11
 dsimp only[qpg,qum]at wh11
 obtain⟨v12,h13,h⟩:=j0 h
 obtain⟨v14,h15,h⟩:=j0 h
 obtain rfl:=oi h
 refine zk c174 ?_
 simp only[go_sem,seval,c174,wh11,qck h13,qck h15]
 exact⟨_,rfl⟩
def f166:Option qh:=
 some (⟨1,0⟩)
def qse:Option qh:=
 some (⟨0,0⟩)
def qzu (a0:ql)(a1:Int):Option qh:=
 some (⟨a0.a,j9 .i64 (a1*a0.b)⟩)
def f63 (a0:qh)(a1:qh):Option qh:=
 some (⟨j9 .i64 ((j9 .i64 (a0.num*a1.num))-(j9 .i64 (a0.den*a1.den))),j9 .i64 ((j9 .i64 (a0.num*a1.den))+(j9 .i64 (a0.den*a1.num)))⟩)
def f64 (a0:qh)(a1:qh):Option qh:=
 some (⟨j9 .i64 (a0.num+a1.num),j9 .i64 (a0.den+a1.den)⟩)
def q1u (a0:Int)(a1:Int)(s0:Int×Int):Option ((Int×Int)⊕((Int×Int))):=
 cond (decide (s0.2=0))
  (some (.inr (s0.1,s0.2)))
  (j5 (qh8 s0.1 s0.2) fun v9=>
  some (.inl (s0.2,v9)))
def qst (a0:Int)(a1:Int)(s0:Int×Int):qd:=⟨[(0,Iv (j9 .i64 (0-a0)),false),(1,Iv (j9 .i64 (0-a1)),false),(4,.ptr 0 0,false),(5,Iv s0.1,false),(6,Iv s0.2,false)],[.cells [(Iv 0,false),(Iv 0,false)]]⟩
def qwf (a0:Int)(a1:Int)(d:(Int×Int)):qj×qd:=(.exit 0,⟨[(0,Iv (j9 .i64 (0-a0)),false),(1,Iv (j9 .i64 (0-a1)),false),(4,.ptr 0 0,false),(5,Iv d.1,false),(6,Iv d.2,false),(19,.bool false,false)],[.cells [(Iv 0,false),(Iv 0,false)]]⟩)
theorem js8 (a0:Int)(a1:Int)(s0:Int×Int)(r)(h:q1u a0 a1 s0=some r):yt pr qkp (qst a0 a1) (qwf a0 a1) s0 r:=by
 unfold q1u at h
 rcases j4 h with⟨h8,h⟩|⟨h8,h⟩
 ·cases h
  exact zc (by simp only[go_sem,seval,qkp,qst,h8,qwf]<;>rfl)
 obtain⟨v9,h10,h⟩:=j0 h
 cases h
 exact zq (by simp only[go_sem,seval,qkp,qst,h8,qoi h10]<;>rfl)
theorem jq1 (a0:Int)(a1:Int){s0:Int×Int}{d}(h:itO (q1u a0 a1) s0=some d):X pr (.loop qkp) (qst a0 a1 s0)=some (qwf a0 a1 d):=kg (js8 a0 a1) (fun d hh=>by cases hh) h
def qwr (a0:Int)(a1:Int)(s0:Int×Int):Option ((Int×Int)⊕((Int×Int))):=
 cond (decide (s0.2=0))
  (some (.inr (s0.1,s0.2)))
  (j5 (qh8 s0.1 s0.2) fun v24=>
  some (.inl (s0.2,v24)))
def qn2 (a0:Int)(a1:Int)(s0:Int×Int):qd:=⟨[(0,Iv a0,false),(1,Iv a1,false),(4,.ptr 0 0,false),(5,Iv s0.1,false),(6,Iv s0.2,false)],[.cells [(Iv 0,false),(Iv 0,false)]]⟩
def qtz (a0:Int)(a1:Int)(d:(Int×Int)):qj×qd:=(.exit 0,⟨[(0,Iv a0,false),(1,Iv a1,false),(4,.ptr 0 0,false),(5,Iv d.1,false),(6,Iv d.2,false),(19,.bool false,false)],[.cells [(Iv 0,false),(Iv 0,false)]]⟩)
theorem jou (a0:Int)(a1:Int)(s0:Int×Int)(r)(h:qwr a0 a1 s0=some r):yt pr qkp (qn2 a0 a1) (qtz a0 a1) s0 r:=by
 unfold qwr at h
 rcases j4 h with⟨h23,h⟩|⟨h23,h⟩
 ·cases h
  exact zc (by simp only[go_sem,seval,qkp,qn2,h23,qtz]<;>rfl)
 obtain⟨v24,h25,h⟩:=j0 h
 cases h
 exact zq (by simp only[go_sem,seval,qkp,qn2,h23,qoi h25]<;>rfl)
theorem jo9 (a0:Int)(a1:Int){s0:Int×Int}{d}(h:itO (qwr a0 a1) s0=some d):X pr (.loop qkp) (qn2 a0 a1 s0)=some (qtz a0 a1 d):=kg (jou a0 a1) (fun d hh=>by cases hh) h
def f66 (a0:Int)(a1:Int):Option qh:=
 cond (decide (a1<0))
  (j5 (itO (q1u a0 a1) (max (j9 .i64 (0-a0)) (j9 .i64 (0-(j9 .i64 (0-a0)))),j9 .i64 (0-a1))) fun d11=>
  j5 (qfc .i64 (j9 .i64 (0-a0)) d11.1) fun v13=>
  j5 (qfc .i64 (j9 .i64 (0-a1)) d11.1) fun v15=>
  some (⟨v13,v15⟩))
  (j5 (itO (qwr a0 a1) (max a0 (j9 .i64 (0-a0)),a1)) fun d26=>
  j5 (qfc .i64 a0 d26.1) fun v28=>
  j5 (qfc .i64 a1 d26.1) fun v30=>
  some (⟨v28,v30⟩))
theorem W66 {a0:Int}{a1:Int}{r}(h:f66 a0 a1=some r):zb pr (X pr) 66 [Iv a0,Iv a1]=some (.agg [Iv r.num,Iv r.den],false):=by
 unfold f66 at h
 rcases j4 h with⟨h1,h⟩|⟨h1,h⟩
 ·obtain⟨d11,h12,h⟩:=j0 h
  have wh12:=jq1 a0 a1 h12
  dsimp only[qst,qwf]at wh12
  obtain⟨v13,h14,h⟩:=j0 h
  obtain⟨v15,h16,h⟩:=j0 h
  obtain rfl:=oi h
  refine zk c66 ?_
  simp only[go_sem,seval,c66,h1,wh12,qck h14,qck h16]
  exact⟨_,rfl⟩
 obtain⟨d26,h27,h⟩:=j0 h
 have wh27:=jo9 a0 a1 h27
 dsimp only[qn2,qtz]at wh27
 obtain⟨v28,h29,h⟩:=j0 h
 obtain⟨v30,h31,h⟩:=j0 h
 obtain rfl:=oi h
 refine zk c66 ?_
 simp only[go_sem,seval,c66,h1,wh27,qck h29,qck h31]
 exact⟨_,rfl⟩
def q9s (a0:qh):Option Int:=
 some (j9 .i64 ((j9 .i64 (a0.num*a0.num))+(j9 .i64 (a0.den*a0.den))))
def q94 (a0:List UInt8)(a1:qh):Option qr:=
 cond (decide (a0=([115,101,114,105,101,115]:List UInt8)))
  (j5 (f166) fun v2=>
  j5 (qse) fun v4=>
  some (⟨v2.num,v2.den,a1.num,a1.den,v4.num,v4.den,v2.num,v2.den⟩))
  (cond (decide (a0=([115,104,117,110,116]:List UInt8)))
   (j5 (f166) fun v7=>
   j5 (qse) fun v9=>
   some (⟨v7.num,v7.den,v9.num,v9.den,a1.num,a1.den,v7.num,v7.den⟩))
   (cond (decide (a0=([98,108,111,99,107]:List UInt8)))
    (j5 (f166) fun v12=>
    j5 (qse) fun v14=>
    some (⟨a1.num,a1.den,v12.num,v12.den,v14.num,v14.den,a1.num,a1.den⟩))
    (j5 (qse) fun v16=>
    j5 (f166) fun v18=>
    some (⟨a1.num,a1.den,v16.num,v16.den,v18.num,v18.den,a1.num,a1.den⟩))))
def f169 (a0:qr)(a1:qr):Option qr:=
 j5 (f63 (⟨a0.m0,a0.m1⟩) (⟨a1.m0,a1.m1⟩)) fun v1=>
 j5 (f63 (⟨a0.m2,a0.m3⟩) (⟨a1.m4,a1.m5⟩)) fun v3=>
 j5 (f64 v1 v3) fun v5=>
 j5 (f63 (⟨a0.m0,a0.m1⟩) (⟨a1.m2,a1.m3⟩)) fun v7=>
 j5 (f63 (⟨a0.m2,a0.m3⟩) (⟨a1.m6,a1.m7⟩)) fun v9=>
 j5 (f64 v7 v9) fun v11=>
 j5 (f63 (⟨a0.m4,a0.m5⟩) (⟨a1.m0,a1.m1⟩)) fun v13=>
 j5 (f63 (⟨a0.m6,a0.m7⟩) (⟨a1.m4,a1.m5⟩)) fun v15=>
 j5 (f64 v13 v15) fun v17=>
 j5 (f63 (⟨a0.m4,a0.m5⟩) (⟨a1.m2,a1.m3⟩)) fun v19=>
 j5 (f63 (⟨a0.m6,a0.m7⟩) (⟨a1.m6,a1.m7⟩)) fun v21=>
 j5 (f64 v19 v21) fun v23=>
 some (⟨v5.num,v5.den,v11.num,v11.den,v17.num,v17.den,v23.num,v23.den⟩)
def pcL:qe→qe
 | .seq a _=>a
 |x=>x
def pcR:qe→qe
 | .seq _ b=>b
 |x=>x
def pcB:qe→qe
 | .block _ b=>b
 |x=>x
def rfA:qe→qe
 | .rangeFunc _ _ a _=>a
 |x=>x
def rfB:qe→qe
 | .rangeFunc _ _ _ b=>b
 |x=>x
theorem qva {n:Nat}{v:qa}{h:ze}(hn:h.length=n):qac n v h=h:=by
 unfold qac
 rw[Nat.ble_eq_true_of_le (by omega)];rfl
theorem qp0 {n:Nat}{v:qa}{h t:ze}(hn:h.length=n)(hv:Abs.below n v=true)(hb:yl n h=true):qac n v (h++t)=h:=by
 have ht:(h++t).take n=h:=by rw[←hn,List.take_left'];rfl
 unfold qac
 rw[ht,hv,hb]
 cases hc:Nat.ble (h++t).length n with
 |false=>rfl
 |true=>
  have:=Nat.le_of_ble_eq_true hc
  rw[List.length_append]at this
  have h0:t=[]:=List.length_eq_zero_iff.1 (by omega)
  subst h0
  simp
def mcs (m:qr):List (qa×Bool):=[(.int .i64 m.m0,false),(.int .i64 m.m1,false),(.int .i64 m.m2,false),(.int .i64 m.m3,false),(.int .i64 m.m4,false),(.int .i64 m.m5,false),(.int .i64 m.m6,false),(.int .i64 m.m7,false)]
def gcs (d:qh):List (qa×Bool):=[(.int .i64 d.num,false),(.int .i64 d.den,false)]
def qng:qe:=pcB (pcR (pcL (pcR (pcR c173.body))))
def qkl:qe:=rfA qng
def qiv:qe:=rfB qng
theorem jf6:qng=.rangeFunc (.tmp 18) [19,20] qkl qiv:=rfl
section
variable (l:Option (List ql))(w:Int)
def qfi:Env:=[(4,.ptr 0 0,false),(5,.ptr 1 0,false),(6,.ptr 2 0,false),(7,.ptr 3 0,false),(18,.fn (.func 233) [] [.vptr (sl 3 vel l),.vptr (.int .i64 w)],false)]
def z2:List (qa×Bool):=[(.int .i64 0,false),(.int .i64 0,false)]
def z8:List (qa×Bool):=[(.int .i64 0,false),(.int .i64 0,false),(.int .i64 0,false),(.int .i64 0,false),(.int .i64 0,false),(.int .i64 0,false),(.int .i64 0,false),(.int .i64 0,false)]
def qr1 (m:qr)(d:qh):ze:=[.cells z8,.cells z2,.cells (mcs m),.cells (gcs d)]
def qbs (m:qr)(d:qh)(pd:Option qj)(t:ze):ze:=.cells z8::.cells z2::.cells (mcs m)::.cells (gcs d)::.loop ⟨qfi l w,[19,20],qkl,qiv,pd⟩::t
def ke (s:List UInt8)(b:Bool)(n:Nat):qa:=.agg [.str s,.bool b,.fn (.func n) [] []]
def ga (v:qh):qa:=.agg [.int .i64 v.num,.int .i64 v.den]
def tl (s:List UInt8)(b:Bool)(n:Nat)(v:qh):ze:=[.cells [(.str s,false),(.bool b,false),(.fn (.func n) [] [],false)],.cells (gcs v)]
def t2 (x:ql):ze:=[.map qan,.cells [(.str x.kind,false),(.int .i64 x.a,false),(.int .i64 x.b,false)]]
def q1r:Env:=[(4,.ptr 0 0,false),(5,.ptr 1 0,false),(6,.ptr 2 0,false),(7,.ptr 3 0,false),(8,.ptr 7 0,false),(9,.ptr 8 0,false)]
variable {l w}
theorem jbu {s b n}{v m d}{x:ql}:X pr qkl ⟨(20,ga v,false)::(19,ke s b n,false)::qfi l w,qbs l w m d none (t2 x)⟩=some (.normal,⟨q1r,qbs l w m d none (t2 x++tl s b n v)⟩):=by
 simp only[go_sem,seval,qkl,rfA,qng,pcB,pcL,pcR,c173,qfi,ke,ga,qbs,t2]<;>rfl
theorem ja6 {s b n}{v c m m1:_}{d d1:qh}{x:ql}{pd}(h1:zb pr (X pr) n [ga v]=some (.agg [.int .i64 c.m0,.int .i64 c.m1,.int .i64 c.m2,.int .i64 c.m3,.int .i64 c.m4,.int .i64 c.m5,.int .i64 c.m6,.int .i64 c.m7],false))
  (h2:f206 m c=some m1) (h3:cond b (f207 d v) (some d)=some d1):∃e,X pr qiv ⟨q1r,qbs l w m d pd (t2 x++tl s b n v)⟩=some (.normal,⟨e,qbs l w m1 d1 pd (t2 x++tl s b n v)⟩):=by
 have g2:=j21 h2
 simp only[ga]at h1
 cases b with
 |true=>
  have g3:=qqo (show f207 d v=some d1 from h3)
  simp only[go_sem,seval,qiv,rfB,qng,pcB,pcL,pcR,c173,q1r,qbs,t2,tl,mcs,gcs,h1,g2,g3]
  exact⟨_,rfl⟩
 |false=>
  obtain rfl:d=d1:=Option.some.inj h3
  simp only[go_sem,seval,qiv,rfB,qng,pcB,pcL,pcR,c173,q1r,qbs,t2,tl,mcs,gcs,h1,g2]
  exact⟨_,rfl⟩
theorem q72:qa7 7 (qfi l w)=true:=by
 have hb:Abs.below 7 (sl 3 vel l)=true:=by simp only[go_sem,seval]
 have h1:yb 7 [.vptr (sl 3 vel l),.vptr (.int .i64 w)]=true:=by
  show(Abs.below 7 (sl 3 vel l)&&true)=true
  rw[hb];rfl
 have h2:Abs.below 7 (.fn (.func 233) [] [.vptr (sl 3 vel l),.vptr (.int .i64 w)])=true:=by
  show(true&&yb 7 [.vptr (sl 3 vel l),.vptr (.int .i64 w)])=true
  rw[h1];rfl
 simp only[qfi,qa7,List.all_cons,List.all_nil,h2]
 rfl
theorem q50:qa7 6 (qfi l w)=true:=by
 have hb:Abs.below 6 (sl 3 vel l)=true:=by simp only[go_sem,seval]
 have h1:yb 6 [.vptr (sl 3 vel l),.vptr (.int .i64 w)]=true:=by
  show(Abs.below 6 (sl 3 vel l)&&true)=true
  rw[hb];rfl
 have h2:Abs.below 6 (.fn (.func 233) [] [.vptr (sl 3 vel l),.vptr (.int .i64 w)])=true:=by
  show(true&&yb 6 [.vptr (sl 3 vel l),.vptr (.int .i64 w)])=true
  rw[h1];rfl
 simp only[qfi,qa7,List.all_cons,List.all_nil,h2]
 rfl
theorem q91 {m d pd}{x:ql}:yl 7 (qbs l w m d pd (t2 x))=true:=by
 simp only[qbs,t2,yl,List.all_cons,List.all_nil,qa4,q72,mcs,gcs,z8,z2,qan]
 rfl
theorem j0v {s b n}{v c m m1:_}{d d1:qh}{x:ql}(h1:zb pr (X pr) n [ga v]=some (.agg [.int .i64 c.m0,.int .i64 c.m1,.int .i64 c.m2,.int .i64 c.m3,.int .i64 c.m4,.int .i64 c.m5,.int .i64 c.m6,.int .i64 c.m7],false))
  (h2:f206 m c=some m1) (h3:cond b (f207 d v) (some d)=some d1):qbn (X pr) 4 [ke s b n,ga v] (qbs l w m d none (t2 x))=some (.bool true,qbs l w m1 d1 none (t2 x)):=by
 have g:∀m d pd t,qal (qbs l w m d pd t) 4=some (.loop ⟨qfi l w,[19,20],qkl,qiv,pd⟩):=fun _ _ _ _=>rfl
 have se:qfl (noOwn (qfi l w)) [19,20] [ke s b n,ga v]=some ((20,ga v,false)::(19,ke s b n,false)::qfi l w):=rfl
 have st:∀m d pd pd' t,(qbs l w m d pd t).set 4 (.loop ⟨qfi l w,[19,20],qkl,qiv,pd'⟩)=qbs l w m d pd' t:=fun _ _ _ _ _=>rfl
 have hl:∀m d pd,(qbs l w m d pd (t2 x)).length=7:=fun _ _ _=>rfl
 have ha:∀m d pd v t,Abs.below 7 v=true→qac 7 v (qbs l w m d pd (t2 x++t))=qbs l w m d pd (t2 x):=fun m d pd v t hv=>qp0 (h:=qbs l w m d pd (t2 x)) rfl hv q91
 obtain⟨e,hb⟩:=ja6 (l:=l) (w:=w) (s:=s) (x:=x) (pd:=some .normal) h1 h2 h3
 unfold qbn
 simp only[g,se,jbu,Option.isNone_none,cT,st,hl,hb]
 rw[ha _ _ _ _ _ rfl]
end
def kOf (s:List UInt8)(v:qh):Option (qr×Bool):=
 cond (decide (s=([98,108,111,99,107]:List UInt8))) (j5 (f218 v) fun c=>some (c,true))
  (cond (decide (s=([115,101,114,105,101,115]:List UInt8))) (j5 (f219 v) fun c=>some (c,false))
  (cond (decide (s=([115,104,117,110,116]:List UInt8))) (j5 (f220 v) fun c=>some (c,false))
   (cond (decide (s=([116,114,97,112]:List UInt8))) (j5 (f221 v) fun c=>some (c,true)) none)))
theorem jh8 {s:List UInt8}{v:qh}{c b}(h:kOf s v=some (c,b)):∃t k n,yy .str (.str s) qan 0=some (some (t,ke k b n))∧zb pr (X pr) n [ga v]=some (.agg [.int .i64 c.m0,.int .i64 c.m1,.int .i64 c.m2,.int .i64 c.m3,.int .i64 c.m4,.int .i64 c.m5,.int .i64 c.m6,.int .i64 c.m7],false):=by
 unfold kOf at h
 rcases j4 h with⟨h1,k⟩|⟨h1,k⟩
 ·obtain⟨c',h2,k⟩:=j0 k
  cases k
  exact⟨_,_,_,qxc h1,j4a h2⟩
 rcases j4 k with⟨h2,k⟩|⟨h2,k⟩
 ·obtain⟨c',h3,k⟩:=j0 k
  cases k
  exact⟨_,_,_,q8h h1 h2,j0a h3⟩
 rcases j4 k with⟨h3,k⟩|⟨h3,k⟩
 ·obtain⟨c',h4,k⟩:=j0 k
  cases k
  exact⟨_,_,_,q75 h1 h2 h3,jzt h4⟩
 rcases j4 k with⟨h4,k⟩|⟨h4,k⟩
 ·obtain⟨c',h5,k⟩:=j0 k
  cases k
  exact⟨_,_,_,qxk h1 h2 h3 h4,j06 h5⟩
 ·cases k
def q11 (w:Int)(q:qr×qh)(x:ql):Option (qr×qh):=
 j5 (kOf x.kind ⟨x.a,j9 .i64 (w*x.b)⟩) fun c=>j5 (f206 q.1 c.1) fun m=>j5 (cond c.2 (f207 q.2 ⟨x.a,j9 .i64 (w*x.b)⟩) (some q.2)) fun d=>some (m,d)
def qm0 (w:Int):List ql→qr×qh→Option (qr×qh)
 | [],q=>some q
 |x::l,q=>j5 (q11 w q x) fun q'=>qm0 w l q'
def q2f (w:Int)(l:Option (List ql))(d:Int×qr×qh):Option ((Int×qr×qh)⊕(Int×qr×qh)):=
 cond (decide (d.1<((l.getD []).length:Int))) (j5 (yo (l.getD []) d.1) fun x=>j5 (q11 w d.2 x) fun q=>some (.inl (j9 .i64 (d.1+1),q))) (some (.inr d))
def qxm (w:Int)(l:Option (List ql))(d:Int×qr×qh):qd:=⟨[(0,.fn (.yield 4) [] [],false),(2,.vptr (.int .i64 w),false),(4,.map 5,false),(8,sl 3 vel l,false),(9,.int .i64 ((l.getD []).length:Int),false),(10,.int .i64 d.1,false)],qbs l w d.2.1 d.2.2 none [.map qan]⟩
def q1z (w:Int)(l:Option (List ql))(d:Int×qr×qh):qj×qd:=(.exit 0,⟨[(0,.fn (.yield 4) [] [],false),(2,.vptr (.int .i64 w),false),(4,.map 5,false),(8,sl 3 vel l,false),(9,.int .i64 ((l.getD []).length:Int),false),(10,.int .i64 d.1,false),(11,.bool false,false)],qbs l w d.2.1 d.2.2 none [.map qan]⟩)
theorem j3c {w:Int}{l:Option (List ql)}(d:Int×qr×qh)(r)(h:q2f w l d=some r):yt pr qsv (qxm w l) (q1z w l) d r:=by
 obtain⟨i,m,e⟩:=d
 unfold q2f at h
 dsimp only at h
 rcases j4 h with⟨h1,k⟩|⟨h1,k⟩
 ·obtain⟨x,h2,k⟩:=j0 k
  obtain⟨q,h3,k⟩:=j0 k
  cases k
  unfold q11 at h3
  obtain⟨⟨c,b⟩,h4,k⟩:=j0 h3
  obtain⟨m1,h5,k⟩:=j0 k
  obtain⟨d1,h6,k⟩:=j0 k
  cases k
  obtain⟨t,kk,n,g1,g2⟩:=jh8 h4
  have hy:=j0v (l:=l) (w:=w) (s:=kk) (x:=x) g2 h5 h6
  simp only[qbs,t2,ke,ga]at hy g1
  refine qby (st':=⟨[(0,.fn (.yield 4) [] [],false),(2,.vptr (.int .i64 w),false),(4,.map 5,false),(8,sl 3 vel l,false),(9,.int .i64 ((l.getD []).length:Int),false),(10,.int .i64 (j9 .i64 (i+1)),false)],qbs l w m1 d1 none (t2 x)⟩) (by simp only[go_sem,seval,qsv,qxm,qbs,t2,h1,zm h2,g1,hy]<;>rfl) ?_
  exact qh9 (h:=qbs l w m1 d1 none [.map qan]) (h':=[.cells [(.str x.kind,false),(.int .i64 x.a,false),(.int .i64 x.b,false)]]) rfl rfl (by
   have hb:Abs.below 6 (sl 3 vel l)=true:=by simp only[go_sem,seval]
   show((true&&true)&&((true&&true)&&(true&&(Abs.below 6 (sl 3 vel l)&&(true&&(true&&true))))))=true
   rw[hb];rfl) (by
   show yl 6 _=true
   simp only[qbs,yl,List.all_cons,List.all_nil,qa4,q50,mcs,gcs,z8,z2,qan]
   rfl)
 ·cases k
  exact zc (by simp only[go_sem,seval,qsv,qxm,qbs,h1,q1z]<;>rfl)
theorem jhg {w:Int}{l:Option (List ql)}(hl:(l.getD []).length≤5):∀ {k:Nat} {i:Nat} {q r:qr×qh},(l.getD []).length=i+k→qm0 w ((l.getD []).drop i) q=some r→itO (q2f w l) ((i:Int),q)=some (((l.getD []).length:Int),r)
 |0,i,q,r,hk,h=>by
  rw[List.drop_eq_nil_of_le (by omega)]at h
  cases h
  have hd:decide ((i:Int)<((l.getD []).length:Int))=false:=dF (by omega)
  rw[k9 (d:=((i:Int),q)) (by simp only[q2f,hd,cF]),show(i:Int)=((l.getD []).length:Int) by omega]
 |k+1,i,q,r,hk,h=>by
  have hi:i<(l.getD []).length:=by omega
  have hx:(l.getD [])[i]?=some (l.getD [])[i]:=List.getElem?_eq_getElem hi
  rw[kh hx]at h
  simp only[qm0]at h
  obtain⟨q1,h1,h2⟩:=j0 h
  have hd:decide ((i:Int)<((l.getD []).length:Int))=true:=dT (by omega)
  have hw:j9 .i64 ((i:Int)+1)=((i+1:Nat):Int):=by
   have:i≤4:=by omega
   match i,this with
   |0,_=>rfl
   |1,_=>rfl
   |2,_=>rfl
   |3,_=>rfl
   |4,_=>rfl
  rw[qbb (s':=(((i+1:Nat):Int),q1)) (by simp only[q2f,hd,cT,qgl,hx,j5,h1,hw])]
  exact jhg hl (k:=k) (i:=i+1) (by omega) h2
section
variable {l:Option (List ql)}{w:Int}{m m1:qr}{d d1:qh}
theorem j2u (hl:(l.getD []).length≤5)(h:qm0 w (l.getD []) (m,d)=some (m1,d1)):∃t,ye pr (X pr) 233 [.fn (.yield 4) [] [],.vptr (sl 3 vel l),.vptr (.int .i64 w)] (qbs l w m d none [])=some (.tup [],false,qbs l w m1 d1 none t):=by
 have h0:=jhg (k:=(l.getD []).length) (i:=0) hl (by omega) (by rw[List.drop_zero];exact h)
 have h1:X pr (.loop qsv) (qxm w l (0,m,d))=some (q1z w l (((l.getD []).length:Int),m1,d1)):=kg j3c (fun d=>by intro hh;cases hh) h0
 rw[kr (show pr.fns 233=some c233 from rfl) (by simp)]
 have hm:pr.maps 193=some qan:=rfl
 simp only[qxm,q1z,qbs]at h1 ⊢
 simp only[go_sem,seval,c233,h1,hm]
 exact⟨_,rfl⟩
theorem jfk (hl:(l.getD []).length≤5)(h:qm0 w (l.getD []) (m,d)=some (m1,d1)):X pr qng ⟨qfi l w,qr1 m d⟩=some (.normal,⟨qfi l w,qr1 m1 d1⟩):=by
 obtain⟨t,h1⟩:=j2u hl h
 have hb:∀m d,yl 4 (qr1 m d)=true:=by
  intro m d
  simp only[qr1,yl,List.all_cons,List.all_nil,qa4,mcs,gcs,z8,z2]
  rfl
 rw[jf6,qz2]
 unfold qdd
 have hn:(kz qkl&&kz qiv)=true:=rfl
 have he:zf (qfi l w) (.tmp 18)=some (.fn (.func 233) [] [.vptr (sl 3 vel l),.vptr (.int .i64 w)]):=rfl
 have hl:∀m d,(qr1 m d).length=4:=fun _ _=>rfl
 have hap:qr1 m d++[.loop ⟨qfi l w,[19,20],qkl,qiv,none⟩]=qbs l w m d none []:=rfl
 have hg:qal (qbs l w m1 d1 none t) 4=some (.loop ⟨qfi l w,[19,20],qkl,qiv,none⟩):=rfl
 have ht:(qbs l w m1 d1 none t).take 4=qr1 m1 d1:=rfl
 simp only[hn,cT,he,hl,List.nil_append,List.cons_append,hap,h1,hg,ht,hb]
end
def jch:qe:=pcL c173.body
def jdi:qe:=pcL (pcR c173.body)
def jdn:qe:=pcL (pcL (pcR (pcR c173.body)))
def jcr:qe:=pcR (pcR (pcR c173.body))
def f173 (l:Option (List ql))(w:Int):Option (qr×qh):=cond (decide ((l.getD []).length≤5)) (qm0 w (l.getD []) (⟨1,0,0,0,0,0,1,0⟩,⟨1,0⟩)) none
theorem jz3 {l:Option (List ql)}{w:Int}:zb pr (X pr) 205 [sl 3 vel l,.int .i64 w]=some (.fn (.func 233) [] [.vptr (sl 3 vel l),.vptr (.int .i64 w)],false):=by
 have this:∃hh,ye pr (X pr) 205 [sl 3 vel l,.int .i64 w] []=some (.fn (.func 233) [] [.vptr (sl 3 vel l),.vptr (.int .i64 w)],false,hh):=by
  rw[kr (show pr.fns 205=some c205 from rfl) (by simp)]
  simp only[go_sem,seval,c205]
  exact⟨_,rfl⟩
 obtain⟨hh,this⟩:=this
 have hb:Abs.below 0 (sl 3 vel l)=true:=by simp only[go_sem,seval]
 have hp:Abs.below 0 (.fn (.func 233) [] [.vptr (sl 3 vel l),.vptr (.int .i64 w)])=true:=by
  show(true&&(Abs.below 0 (sl 3 vel l)&&true))=true
  rw[hb];rfl
 exact qed rfl this (by first|rfl|simp only[go_sem,seval]) (by first|exact hp|simp only[go_sem,seval])
theorem j2d {l:Option (List ql)}{w:Int}{r}(h:f173 l w=some r):zb pr (X pr) 173 [sl 3 vel l,.int .i64 w]=some (.tup [.agg [.int .i64 r.1.m0,.int .i64 r.1.m1,.int .i64 r.1.m2,.int .i64 r.1.m3,.int .i64 r.1.m4,.int .i64 r.1.m5,.int .i64 r.1.m6,.int .i64 r.1.m7],.agg [.int .i64 r.2.num,.int .i64 r.2.den]],false):=by
 unfold f173 at h
 rcases j4 h with⟨h1,k⟩|⟨h1,k⟩
 ·obtain⟨m,d⟩:=r
  have hx:=jfk (by simpa using h1) k
  have g205:=jz3 (l:=l) (w:=w)
  have this:∃hh,ye pr (X pr) 173 [sl 3 vel l,.int .i64 w] []=some (.tup [.agg [.int .i64 m.m0,.int .i64 m.m1,.int .i64 m.m2,.int .i64 m.m3,.int .i64 m.m4,.int .i64 m.m5,.int .i64 m.m6,.int .i64 m.m7],.agg [.int .i64 d.num,.int .i64 d.den]],false,hh):=by
   rw[kr (show pr.fns 173=some ⟨34,.seq jch (.seq jdi (.seq (.seq jdn (.block 0 qng)) jcr)),[.cell 4 true 8,.cell 5 true 2]⟩from rfl) (by simp)]
   simp only[qfi,qr1,mcs,gcs,z8,z2]at hx
   simp only[go_sem,seval,jch,jdi,jdn,jcr,pcL,pcR,c173,g205,hx]
   exact⟨_,rfl⟩
  obtain⟨hh,this⟩:=this
  exact qed rfl this (by first|rfl|simp only[go_sem,seval]) (by first|rfl|simp only[go_sem,seval])
 ·cases k
end Go.Z
end
