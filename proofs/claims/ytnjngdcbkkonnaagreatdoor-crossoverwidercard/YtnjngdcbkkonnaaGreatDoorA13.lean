/- Chapter 4. -/
import Derived.Test.YtnjngdcbkkonnaaGreatDoorA8
set_option linter.unusedVariables false
set_option linter.unusedSimpArgs false
set_option maxRecDepth 100000
set_option maxHeartbeats 4000000
noncomputable section
namespace Go.Z
open Go Go.Abs
def f164 (a0:qi)(a1:TE):Option Bool:=
 j5 (f57 a1 a0.w) fun v1=>
 cond (decide (v1.2=0))
  (j5 (f127 (⟨a0.ln,a0.ld⟩) v1.1) fun v4=>
  cond v4
   (some false)
   (j5 (f127 v1.1 (⟨a0.mn,a0.md⟩)) fun v7=>
   some (!v7)))
  (some false)
theorem jmv {a0:qi}{a1:TE}{r}(h:f164 a0 a1=some r):zb pr (X pr) 164 [.agg [Iv a0.w,Iv a0.ln,Iv a0.ld,Iv a0.mn,Iv a0.md],sl 3 vel a1]=some (.bool r,false):=by
 unfold f164 at h
 obtain⟨v1,h2,h⟩:=j0 h
 have wh2:=W57 h2
 rcases j4 h with⟨h3,h⟩|⟨h3,h⟩
 ·obtain⟨v4,h5,h⟩:=j0 h
  have wh5:=jei h5
  rcases j4 h with⟨h6,h⟩|⟨h6,h⟩
  ·obtain rfl:=oi h
   refine zk c164 ?_
   simp only[go_sem,seval,c164,wh2,h3,wh5,h6]
   exact⟨_,rfl⟩
  obtain⟨v7,h8,h⟩:=j0 h
  have wh8:=jei h8
  obtain rfl:=oi h
  refine zk c164 ?_
  simp only[go_sem,seval,c164,wh2,h3,wh5,h6,wh8]
  exact⟨_,rfl⟩
 obtain rfl:=oi h
 refine zk c164 ?_
 simp only[go_sem,seval,c164,wh2,h3]
 exact⟨_,rfl⟩
def q9w (a0:TE)(a1:qi):Option Bool:=
 j5 (jgm a0 a1.w) fun v1=>
 cond (decide (v1.2=0))
  (j5 (f58 200 v1.1 (⟨a1.ln,a1.ld⟩)) fun v4=>
  cond v4
   (some false)
   (j5 (f58 200 (⟨a1.mn,a1.md⟩) v1.1) fun v7=>
   some (!v7)))
  (some false)
def f143 (a0:qh):Option Int:=
 j5 (f109 a0.num 0 1000) fun v1=>
 j5 (f109 a0.den 1 1000) fun v3=>
 j5 (f105 (some [v1,v3])) fun v5=>
 cond (decide (v5=0))
  (j5 (f125 a0.num a0.den) fun v8=>
  j5 (f106 (!(decide (a0.num=v8.num)&&decide (a0.den=v8.den))) 1) fun v10=>
  some v10)
  (some v5)
theorem jno {a0:qh}{r}(h:f143 a0=some r):zb pr (X pr) 143 [.agg [Iv a0.num,Iv a0.den]]=some (Iv r,false):=by
 unfold f143 at h
 obtain⟨v1,h2,h⟩:=j0 h
 have wh2:=qsr h2
 obtain⟨v3,h4,h⟩:=j0 h
 have wh4:=qsr h4
 obtain⟨v5,h6,h⟩:=j0 h
 have wh6:zb pr (X pr) 105 [.list false 1 [Iv v1,Iv v3]]=some (Iv v5,false):=qtf h6
 rcases j4 h with⟨h7,h⟩|⟨h7,h⟩
 ·obtain⟨v8,h9,h⟩:=j0 h
  have wh9:=j14 h9
  obtain⟨v10,h11,h⟩:=j0 h
  have wh11:=qmo h11
  obtain rfl:=oi h
  refine zk c143 ?_
  simp only[go_sem,seval,c143,wh2,wh4,wh6,h7,wh9,wh11]
  exact⟨_,rfl⟩
 obtain rfl:=oi h
 refine zk c143 ?_
 simp only[go_sem,seval,c143,wh2,wh4,wh6,h7]
 exact⟨_,rfl⟩
def qm2 (a0:TB)(s0:Int×Int):Option ((Int×Int)⊕((Int×Int×Int×Int×Int×Int)⊕(Int×Int))):=
 cond (decide (s0.2<((a0.getD []).length:Int)))
  (j5 (yo (a0.getD []) s0.2) fun v41=>
  j5 (f122 v41.w) fun v43=>
  j5 (f143 (⟨v41.ln,v41.ld⟩)) fun v45=>
  j5 (f143 (⟨v41.mn,v41.md⟩)) fun v47=>
  j5 (f105 (some [v43,v45,v47])) fun v49=>
  cond (decide (v49=0))
   (j5 (f127 (⟨v41.ln,v41.ld⟩) (⟨v41.mn,v41.md⟩)) fun v52=>
   cond v52
    (some (.inr (.inl (11,v41.w,v41.ln,v41.ld,v41.mn,v41.md))))
    (cond (decide (v41.w≤s0.1))
     (some (.inr (.inl (11,v41.w,v41.ln,v41.ld,v41.mn,v41.md))))
     (some (.inl (v41.w,j9 .i64 (s0.2+1))))))
   (some (.inr (.inl (v49,v41.w,v41.ln,v41.ld,v41.mn,v41.md)))))
  (some (.inr (.inr (s0.1,s0.2))))
def qfe (a0:TB)(s0:Int×Int):qd:=⟨[(4,Iv s0.1,false),(21,sl 5 yf a0,false),(22,Lv a0,false),(23,Iv s0.2,false)],[]⟩
def qi5 (a0:TB):(Int×Int×Int×Int×Int×Int)⊕(Int×Int)→qj×qd
 | .inl d=>(.ret,⟨[(2,Iv d.1,false)],[.cells [(Iv d.2.1,false),(Iv d.2.2.1,false),(Iv d.2.2.2.1,false),(Iv d.2.2.2.2.1,false),(Iv d.2.2.2.2.2,false)]]⟩)
 | .inr d=>(.exit 0,⟨[(4,Iv d.1,false),(21,sl 5 yf a0,false),(22,Lv a0,false),(23,Iv d.2,false),(24,.bool false,false)],[]⟩)
theorem jvd (a0:TB)(s0:Int×Int)(r)(h:qm2 a0 s0=some r):yt pr qna (qfe a0) (qi5 a0) s0 r:=by
 unfold qm2 at h
 rcases j4 h with⟨h40,h⟩|⟨h40,h⟩
 ·obtain⟨v41,h42,h⟩:=j0 h
  obtain⟨v43,h44,h⟩:=j0 h
  have wh44:=j0s h44
  obtain⟨v45,h46,h⟩:=j0 h
  have wh46:=jno h46
  obtain⟨v47,h48,h⟩:=j0 h
  have wh48:=jno h48
  obtain⟨v49,h50,h⟩:=j0 h
  have wh50:zb pr (X pr) 105 [.list false 1 [Iv v43,Iv v45,Iv v47]]=some (Iv v49,false):=qtf h50
  rcases j4 h with⟨h51,h⟩|⟨h51,h⟩
  ·obtain⟨v52,h53,h⟩:=j0 h
   have wh53:=jei h53
   rcases j4 h with⟨h54,h⟩|⟨h54,h⟩
   ·cases h
    exact zc (by simp only[go_sem,seval,qna,qfe,h40,zm h42,wh44,wh46,wh48,wh50,h51,wh53,h54,qi5]<;>rfl)
   rcases j4 h with⟨h55,h⟩|⟨h55,h⟩
   ·cases h
    exact zc (by simp only[go_sem,seval,qna,qfe,h40,zm h42,wh44,wh46,wh48,wh50,h51,wh53,h54,h55,qi5]<;>rfl)
   cases h
   exact qag (by simp only[go_sem,seval,qna,qfe,h40,zm h42,wh44,wh46,wh48,wh50,h51,wh53,h54,h55];exact⟨_,rfl⟩) rfl (by first|simp only[go_sem,seval,qfe]|rfl) (by first|simp only[go_sem,seval,qfe]|rfl)
  cases h
  exact zc (by simp only[go_sem,seval,qna,qfe,h40,zm h42,wh44,wh46,wh48,wh50,h51,qi5]<;>rfl)
 cases h
 exact zc (by simp only[go_sem,seval,qna,qfe,h40,qi5]<;>rfl)
theorem jhu (a0:TB){s0:Int×Int}{d}(h:itO (qm2 a0) s0=some d):X pr (.loop qna) (qfe a0 s0)=some (qi5 a0 d):=kg (jvd a0) (fun d=>by rcases d with d|d<;>(intro hh;cases hh)) h
def f81 (a0:TB):Option Int:=
 j5 (f106 (decide (((a0.getD []).length:Int)=0)) 12) fun v1=>
 j5 (f106 (decide (8<((a0.getD []).length:Int))) 5) fun v3=>
 j5 (f105 (some [v1,v3])) fun v5=>
 cond (decide (v5=0))
  (j5 (itO (qm2 a0) (0,0)) fun d56=>match d56 with
   | .inl d58=>
    some d58.1
   | .inr d59=>
    some 0)
  (some v5)
theorem W81 {a0:TB}{r}(h:f81 a0=some r):zb pr (X pr) 81 [sl 5 yf a0]=some (Iv r,false):=by
 unfold f81 at h
 obtain⟨v1,h2,h⟩:=j0 h
 have wh2:=qmo h2
 obtain⟨v3,h4,h⟩:=j0 h
 have wh4:=qmo h4
 obtain⟨v5,h6,h⟩:=j0 h
 have wh6:zb pr (X pr) 105 [.list false 1 [Iv v1,Iv v3]]=some (Iv v5,false):=qtf h6
 rcases j4 h with⟨h7,h⟩|⟨h7,h⟩
 ·obtain⟨d56,h57,h⟩:=j0 h
  rcases d56 with d58|d59
  ·have wh57:=jhu a0 h57
   dsimp only[qfe,qi5]at wh57
   obtain rfl:=oi h
   refine zk c81 ?_
   simp only[go_sem,seval,c81,wh2,wh4,wh6,h7,wh57]
   exact⟨_,rfl⟩
  have wh57:=jhu a0 h57
  dsimp only[qfe,qi5]at wh57
  obtain rfl:=oi h
  refine zk c81 ?_
  simp only[go_sem,seval,c81,wh2,wh4,wh6,h7,wh57]
  exact⟨_,rfl⟩
 obtain rfl:=oi h
 refine zk c81 ?_
 simp only[go_sem,seval,c81,wh2,wh4,wh6,h7]
 exact⟨_,rfl⟩
def f118 (a0:qh):Option Int:=
 j5 (f40 a0.num 0 1000) fun v1=>
 j5 (f40 a0.den 1 1000) fun v3=>
 j5 (f100 (some [v1,v3])) fun v5=>
 cond (decide (v5=0))
  (j5 (f66 a0.num a0.den) fun v8=>
  j5 (f101 (!(decide (a0.num=v8.num)&&decide (a0.den=v8.den))) 1) fun v10=>
  some v10)
  (some v5)
theorem jpn {a0:qh}{r}(h:f118 a0=some r):zb pr (X pr) 118 [.agg [Iv a0.num,Iv a0.den]]=some (Iv r,false):=by
 unfold f118 at h
 obtain⟨v1,h2,h⟩:=j0 h
 have wh2:=W40 h2
 obtain⟨v3,h4,h⟩:=j0 h
 have wh4:=W40 h4
 obtain⟨v5,h6,h⟩:=j0 h
 have wh6:zb pr (X pr) 100 [.list false 1 [Iv v1,Iv v3]]=some (Iv v5,false):=q8v h6
 rcases j4 h with⟨h7,h⟩|⟨h7,h⟩
 ·obtain⟨v8,h9,h⟩:=j0 h
  have wh9:=W66 h9
  obtain⟨v10,h11,h⟩:=j0 h
  have wh11:=joa h11
  obtain rfl:=oi h
  refine zk c118 ?_
  simp only[go_sem,seval,c118,wh2,wh4,wh6,h7,wh9,wh11]
  exact⟨_,rfl⟩
 obtain rfl:=oi h
 refine zk c118 ?_
 simp only[go_sem,seval,c118,wh2,wh4,wh6,h7]
 exact⟨_,rfl⟩
def f119 (a0:qh)(a1:qh):Option Int:=
 cond (decide ((j9 .i64 (a0.num*a1.den))<(j9 .i64 (a1.num*a0.den))))
  (some (-1))
  (cond (decide ((j9 .i64 (a1.num*a0.den))<(j9 .i64 (a0.num*a1.den))))
   (some 1)
   (some 0))
theorem j24 {a0:qh}{a1:qh}{r}(h:f119 a0 a1=some r):zb pr (X pr) 119 [.agg [Iv a0.num,Iv a0.den],.agg [Iv a1.num,Iv a1.den]]=some (Iv r,false):=by
 unfold f119 at h
 rcases j4 h with⟨h1,h⟩|⟨h1,h⟩
 ·obtain rfl:=oi h
  refine zk c119 ?_
  simp only[go_sem,seval,c119,h1]
  exact⟨_,rfl⟩
 rcases j4 h with⟨h2,h⟩|⟨h2,h⟩
 ·obtain rfl:=oi h
  refine zk c119 ?_
  simp only[go_sem,seval,c119,h1,h2]
  exact⟨_,rfl⟩
 obtain rfl:=oi h
 refine zk c119 ?_
 simp only[go_sem,seval,c119,h1,h2]
 exact⟨_,rfl⟩
def qm8 (a0:TB)(s0:Int):Option (Int⊕(Int⊕Int)):=
 cond (decide (s0<((a0.getD []).length:Int)))
  (j5 (yo (a0.getD []) s0) fun v38=>
  j5 (f34 v38.w) fun v40=>
  j5 (f118 (⟨v38.ln,v38.ld⟩)) fun v42=>
  j5 (f118 (⟨v38.mn,v38.md⟩)) fun v44=>
  j5 (f100 (some [v40,v42,v44])) fun v46=>
  cond (decide (v46=0))
   (j5 (f119 (⟨v38.ln,v38.ld⟩) (⟨v38.mn,v38.md⟩)) fun v49=>
   cond (decide (0<v49))
    (some (.inr (.inl 11)))
    (cond (decide (0<s0))
     (j5 (yo (a0.getD []) (j9 .i64 (s0-1))) fun v53=>
     cond (decide (v38.w≤v53.w))
      (some (.inr (.inl 11)))
      (some (.inl (j9 .i64 (s0+1)))))
     (some (.inl (j9 .i64 (s0+1))))))
   (some (.inr (.inl v46))))
  (some (.inr (.inr s0)))
def qgc (a0:TB)(s0:Int):qd:=⟨[(0,sl 5 yf a0,false),(3,Iv s0,false)],[]⟩
def qjh (a0:TB):Int⊕Int→qj×qd
 | .inl d=>(.ret,⟨[(2,Iv d,false)],[]⟩)
 | .inr d=>(.exit 0,⟨[(0,sl 5 yf a0,false),(3,Iv d,false),(14,.bool false,false)],[]⟩)
theorem jta (a0:TB)(s0:Int)(r)(h:qm8 a0 s0=some r):yt pr qka (qgc a0) (qjh a0) s0 r:=by
 unfold qm8 at h
 rcases j4 h with⟨h37,h⟩|⟨h37,h⟩
 ·obtain⟨v38,h39,h⟩:=j0 h
  obtain⟨v40,h41,h⟩:=j0 h
  have wh41:=W34 h41
  obtain⟨v42,h43,h⟩:=j0 h
  have wh43:=jpn h43
  obtain⟨v44,h45,h⟩:=j0 h
  have wh45:=jpn h45
  obtain⟨v46,h47,h⟩:=j0 h
  have wh47:zb pr (X pr) 100 [.list false 1 [Iv v40,Iv v42,Iv v44]]=some (Iv v46,false):=q8v h47
  rcases j4 h with⟨h48,h⟩|⟨h48,h⟩
  ·obtain⟨v49,h50,h⟩:=j0 h
   have wh50:=j24 h50
   rcases j4 h with⟨h51,h⟩|⟨h51,h⟩
   ·cases h
    exact zc (by simp only[go_sem,seval,qka,qgc,h37,zm h39,wh41,wh43,wh45,wh47,h48,wh50,h51,qjh]<;>rfl)
   rcases j4 h with⟨h52,h⟩|⟨h52,h⟩
   ·obtain⟨v53,h54,h⟩:=j0 h
    rcases j4 h with⟨h55,h⟩|⟨h55,h⟩
    ·cases h
     exact zc (by simp only[go_sem,seval,qka,qgc,h37,zm h39,wh41,wh43,wh45,wh47,h48,wh50,h51,h52,zm h54,h55,qjh]<;>rfl)
    cases h
    exact zq (by simp only[go_sem,seval,qka,qgc,h37,zm h39,wh41,wh43,wh45,wh47,h48,wh50,h51,h52,zm h54,h55]<;>rfl)
   cases h
   exact zq (by simp only[go_sem,seval,qka,qgc,h37,zm h39,wh41,wh43,wh45,wh47,h48,wh50,h51,h52]<;>rfl)
  cases h
  exact zc (by simp only[go_sem,seval,qka,qgc,h37,zm h39,wh41,wh43,wh45,wh47,h48,qjh]<;>rfl)
 cases h
 exact zc (by simp only[go_sem,seval,qka,qgc,h37,qjh]<;>rfl)
theorem jhd (a0:TB){s0:Int}{d}(h:itO (qm8 a0) s0=some d):X pr (.loop qka) (qgc a0 s0)=some (qjh a0 d):=kg (jta a0) (fun d=>by rcases d with d|d<;>(intro hh;cases hh)) h
def f39 (a0:TB):Option Int:=
 cond (decide (((a0.getD []).length:Int)=0))
  (some 12)
  (cond (decide (8<((a0.getD []).length:Int)))
   (some 5)
   (j5 (itO (qm8 a0) 0) fun d56=>match d56 with
    | .inl d58=>
     some d58
    | .inr d59=>
     some 0))
theorem W39 {a0:TB}{r}(h:f39 a0=some r):zb pr (X pr) 39 [sl 5 yf a0]=some (Iv r,false):=by
 unfold f39 at h
 rcases j4 h with⟨h1,h⟩|⟨h1,h⟩
 ·obtain rfl:=oi h
  refine zk c39 ?_
  simp only[go_sem,seval,c39,h1]
  exact⟨_,rfl⟩
 rcases j4 h with⟨h2,h⟩|⟨h2,h⟩
 ·obtain rfl:=oi h
  refine zk c39 ?_
  simp only[go_sem,seval,c39,h1,h2]
  exact⟨_,rfl⟩
 obtain⟨d56,h57,h⟩:=j0 h
 rcases d56 with d58|d59
 ·have wh57:=jhd a0 h57
  dsimp only[qgc,qjh]at wh57
  obtain rfl:=oi h
  refine zk c39 ?_
  simp only[go_sem,seval,c39,h1,h2,wh57]
  exact⟨_,rfl⟩
 have wh57:=jhd a0 h57
 dsimp only[qgc,qjh]at wh57
 obtain rfl:=oi h
 refine zk c39 ?_
 simp only[go_sem,seval,c39,h1,h2,wh57]
 exact⟨_,rfl⟩
def qqi (a0:TB)(s0:TB×Int×Bool):Option ((TB×Int×Bool)⊕((TB×Bool×Int))):=
 cond (decide (s0.2.1<((a0.getD []).length:Int)))
  (j5 (yo (a0.getD []) s0.2.1) fun v14=>
  cond s0.2.2
   (j5 (apO s0.1 [v14]) fun v17=>
   some (.inl (v17,j9 .i64 (s0.2.1+1),true)))
   (cond s0.1.isNone
    (j5 (apO s0.1 [v14]) fun v20=>
    some (.inl (v20,j9 .i64 (s0.2.1+1),true)))
    (none)))
  (some (.inr (s0.1,s0.2.2,s0.2.1)))
def qf7 (a0:TB)(s0:TB×Int×Bool):qd:=⟨[(3,sl 5 yf s0.1,s0.2.2),(6,sl 5 yf a0,false),(7,Lv a0,false),(8,Iv s0.2.1,false)],[]⟩
def qyh (a0:TB)(d:(TB×Bool×Int)):qj×qd:=(.exit 0,⟨[(3,sl 5 yf d.1,d.2.1),(6,sl 5 yf a0,false),(7,Lv a0,false),(8,Iv d.2.2,false),(9,.bool false,false)],[]⟩)
theorem jvc (a0:TB)(s0:TB×Int×Bool)(r)(h:qqi a0 s0=some r):yt pr qtj (qf7 a0) (qyh a0) s0 r:=by
 unfold qqi at h
 rcases j4 h with⟨h13,h⟩|⟨h13,h⟩
 ·obtain⟨v14,h15,h⟩:=j0 h
  rcases j4 h with⟨h16,h⟩|⟨h16,h⟩
  ·obtain⟨v17,h18,h⟩:=j0 h
   cases h
   exact qag (by simp only[go_sem,seval,qtj,qf7,h13,zm h15,h16,q5o h18];exact⟨_,rfl⟩) rfl (by first|simp only[go_sem,seval,qf7]|rfl) (by first|simp only[go_sem,seval,qf7]|rfl)
  rcases j4 h with⟨h19,h⟩|⟨h19,h⟩
  ·obtain⟨v20,h21,h⟩:=j0 h
   cases h
   exact qag (by simp only[go_sem,seval,qtj,qf7,h13,zm h15,h16,h19,q5x h21 h19];exact⟨_,rfl⟩) rfl (by first|simp only[go_sem,seval,qf7]|rfl) (by first|simp only[go_sem,seval,qf7]|rfl)
  cases h
 cases h
 exact zc (by simp only[go_sem,seval,qtj,qf7,h13,qyh]<;>rfl)
theorem jxb (a0:TB){s0:TB×Int×Bool}{d}(h:itO (qqi a0) s0=some d):X pr (.loop qtj) (qf7 a0 s0)=some (qyh a0 d):=kg (jvc a0) (fun d hh=>by cases hh) h
def f38 (a0:TB):Option (TB×Bool):=
 j5 (itO (qqi a0) (none,0,false)) fun d22=>
 some (d22.1,d22.2.1)
theorem W38 {a0:TB}{r}(h:f38 a0=some r):zb pr (X pr) 38 [sl 5 yf a0]=some (sl 5 yf r.1,r.2):=by
 unfold f38 at h
 obtain⟨d22,h23,h⟩:=j0 h
 have wh23:=jxb a0 h23
 dsimp only[qf7,qyh,ql7]at wh23
 obtain rfl:=oi h
 refine qdm c38 ?_
 simp only[go_sem,seval,c38,wh23]
 exact⟨_,rfl⟩
def qxy (a2:TB)(v1:TTE×Bool)(s0:Int)(s1:Int):Option (Int⊕(TE⊕Int)):=
 cond (decide (s1<((v1.1.getD []).length:Int)))
  (j5 (yo (v1.1.getD []) s1) fun v79=>
  j5 (yo (a2.getD []) s0) fun v81=>
  j5 (q9w v79 v81) fun v83=>
  cond v83
   (some (.inl (j9 .i64 (s1+1))))
   (some (.inr (.inl v79))))
  (some (.inr (.inr s1)))
def qwh (a2:TB)(v1:TTE×Bool)(s0:Int):Option (Int⊕((Int×TE)⊕Int)):=
 cond (decide (s0<((a2.getD []).length:Int)))
  (j5 (itO (qxy a2 v1 s0) 0) fun d86=>match d86 with
   | .inl d88=>
    some (.inr (.inl (s0,d88)))
   | .inr d89=>
    some (.inl (j9 .i64 (s0+1))))
  (some (.inr (.inr s0)))
def f79 (a0:TP)(a1:TI)(a2:TB):Option (jf×Bool):=
 j5 (je7 a0 a1 false) fun v1=>
 j5 (itO (qwh a2 v1) 0) fun d90=>match d90 with
  | .inl d92=>
   some (⟨d92.1,d92.2⟩,true)
  | .inr d93=>
   some (⟨0,none⟩,false)
def qnc:qe:=pcB (pcR (pcR (pcB (pcL (pcR (pcR qc6))))))
def qi0:qe:=rfA qnc
def qgf:qe:=rfB qnc
theorem jft:qnc=.rangeFunc (.tmp 22) [23] qi0 qgf:=rfl
section
variable (ps:TP)(ch:TI)(bs:TB)(n i:Int)(b:qi)
def qd3:Env:=[(0,sl 8 zd ps,false),(1,sl 1 zg ch,false),(6,.ptr 0 0,false),(8,.ptr 1 0,false),(9,.ptr 2 0,false),(10,.ptr 3 0,false),(11,.ptr 4 0,false),(13,sl 5 yf bs,false),(14,Iv n,false),(15,Iv i,false),(22,.fn (.func 196) [] [.vptr (sl 1 zg ch),.vptr (sl 8 zd ps),.vptr (.bool false)],false)]
def qyc (x:TE):Env:=[(0,sl 8 zd ps,false),(1,sl 1 zg ch,false),(6,.ptr 0 0,false),(8,.ptr 1 0,false),(9,.ptr 2 0,false),(10,.ptr 3 0,false),(11,.ptr 4 0,false),(12,sl 3 vel x,false),(13,sl 5 yf bs,false),(14,Iv n,false),(15,Iv i,false),(23,sl 3 vel x,false)]
def c1s (i:Int)(x:TE):List (qa×Bool):=[(Iv i,false),(sl 3 vel x,false)]
def bcs (b:qi):List (qa×Bool):=[(Iv b.w,false),(Iv b.ln,false),(Iv b.ld,false),(Iv b.mn,false),(Iv b.md,false)]
def qef (pd:Option qj):qq:=.loop ⟨qd3 ps ch bs n i,[23],qi0,qgf,pd⟩
def qb8 (k:Int)(x:TE)(fd:Bool)(i:Int)(b:qi)(lp:qq)(T:ze):ze:=.cells (c1s 0 none)::.cells (c1s k x)::.cells [(.bool fd,false)]::.cells [(Iv i,false)]::.cells (bcs b)::lp::T
end
section
variable {ps:TP}{ch:TI}{bs:TB}{n i k:Int}{b:qi}{x:TE}{fd:Bool}{lp:qq}{T:ze}
theorem G1:(qb8 k x fd i b lp T)[1]?=some (.cells [(Iv k,false),(sl 3 vel x,false)]):=rfl
theorem G2:(qb8 k x fd i b lp T)[2]?=some (.cells [(.bool fd,false)]):=rfl
theorem G3:(qb8 k x fd i b lp T)[3]?=some (.cells [(Iv i,false)]):=rfl
theorem G4:(qb8 k x fd i b lp T)[4]?=some (.cells [(Iv b.w,false),(Iv b.ln,false),(Iv b.ld,false),(Iv b.mn,false),(Iv b.md,false)]):=rfl
theorem J1:decide (1<(qb8 k x fd i b lp T).length)=true:=rfl
theorem J2:decide (2<(qb8 k x fd i b lp T).length)=true:=rfl
theorem J3:decide (3<(qb8 k x fd i b lp T).length)=true:=rfl
theorem J4:decide (4<(qb8 k x fd i b lp T).length)=true:=rfl
theorem Y1 {k':Int}{x':TE}:(qb8 k x fd i b lp T).set 1 (.cells [(Iv k',false),(sl 3 vel x',false)])=qb8 k' x' fd i b lp T:=rfl
theorem Y2 {fd':Bool}:(qb8 k x fd i b lp T).set 2 (.cells [(.bool fd',false)])=qb8 k x fd' i b lp T:=rfl
theorem jb8 {x':TE}(h:f164 b x'=some true):
  ∃en,X pr qgf ⟨qyc ps ch bs n i x',qb8 k x fd i b lp T⟩=some (.normal,⟨en,qb8 k x fd i b lp T⟩):=by
 have g:=jmv h
 simp only[go_sem,seval,qgf,rfB,qnc,pcB,pcL,pcR,qc6,qyc,g,G1,G2,G3,G4,J1,J2,J3,J4]
 exact⟨_,rfl⟩
theorem jeg {x':TE}(h:f164 b x'=some false):
  ∃en,X pr qgf ⟨qyc ps ch bs n i x',qb8 k x fd i b lp T⟩=some (.exit 0,⟨en,qb8 i x' true i b lp T⟩):=by
 have g:=jmv h
 simp only[go_sem,seval,qgf,rfB,qnc,pcB,pcL,pcR,qc6,qyc,g,G1,G2,G3,G4,J1,J2,J3,J4,Y1,Y2]
 exact⟨_,rfl⟩
end
def qvj (b:qi)(s:Unit)(x:TE):Option (Unit⊕TE):=j5 (f164 b x) fun k=>cond k (some (.inl ())) (some (.inr x))
section
variable (ps:TP)(ch:TI)(bs:TB)(n i:Int)(b:qi)
theorem q9i {m:Nat}(h:5≤m):qa7 m (qd3 ps ch bs n i)=true:=by
 have h1:Abs.below m (sl 1 zg ch)=true:=by simp only[go_sem,seval]
 have h2:Abs.below m (sl 8 zd ps)=true:=by simp only[go_sem,seval]
 have h5:Abs.below m (sl 5 yf bs)=true:=by simp only[go_sem,seval]
 have h3:∀b,b<5→Nat.blt b m=true:=fun b hb=>Nat.ble_eq_true_of_le (by omega)
 show(Abs.below m (sl 8 zd ps)&&(Abs.below m (sl 1 zg ch)&&(Nat.blt 0 m&&(Nat.blt 1 m&&(Nat.blt 2 m&&(Nat.blt 3 m&&(Nat.blt 4 m&&(Abs.below m (sl 5 yf bs)&&(true&&(true&&((true&&(Abs.below m (sl 1 zg ch)&&(Abs.below m (sl 8 zd ps)&&(true&&true))))&&true)))))))))))=true
 rw[h1,h2,h5,h3 0 (by omega),h3 1 (by omega),h3 2 (by omega),h3 3 (by omega),h3 4 (by omega)];rfl
theorem qwu {k:Int}{x:TE}{fd:Bool}{pd:Option qj}{m:Nat}(h:6≤m):yl m (qb8 k x fd i b (qef ps ch bs n i pd) [])=true:=by
 have h1:Abs.below m (sl 3 vel x)=true:=by simp only[go_sem,seval]
 have h2:Abs.below m (sl 3 vel none)=true:=by simp only[go_sem,seval]
 have he:=q9i ps ch bs n i (m:=m) (by omega)
 show((true&&(Abs.below m (sl 3 vel none)&&true))&&((true&&(Abs.below m (sl 3 vel x)&&true))&&((true&&true)&&((true&&true)&&((true&&(true&&(true&&(true&&(true&&true)))))&&(qa7 m (qd3 ps ch bs n i)&&true))))))=true
 rw[h1,h2,he];rfl
def qf1:Base Unit TE where
 R _:=qb8 0 none false i b (qef ps ch bs n i none) []
 RD x:=qb8 i x true i b (qef ps ch bs n i (some (.exit 0))) []
 n:=6
 b:=5
 ls _:=rfl
 ld _:=rfl
 bs k s h:=qwu ps ch bs n i b h
 bd k d h:=qwu ps ch bs n i b h
 hb:=by decide
 ch:=ch
 ps:=ps
 c:=false
theorem jje:(qf1 ps ch bs n i b).fam.yields (qvj b):=by
 intro s x els r h
 have eH:∀s,(qf1 ps ch bs n i b).fam.HS s++els.map kq=qb8 0 none false i b (qef ps ch bs n i none) (qhc (qf1 ps ch bs n i b)::els.map kq):=fun _=>rfl
 have eD:∀d:TE,(qf1 ps ch bs n i b).fam.HD d++els.map kq=qb8 i d true i b (qef ps ch bs n i (some (.exit 0))) (qhc (qf1 ps ch bs n i b)::els.map kq):=fun _=>rfl
 have hbel:∀r,yl (els.length+7) ((qf1 ps ch bs n i b).fam.hr r++els.map kq)=true:=fun r=>(qf1 ps ch bs n i b).fam.below (show 7≤els.length+7 by omega)
 generalize hT:qhc (qf1 ps ch bs n i b)::els.map kq=T at eH eD
 have hlT:T.length=els.length+1:=by rw[←hT,List.length_cons,List.length_map]
 show qbn (X pr) 5 [sl 3 vel x] _=_
 rw[eH]
 have g0:∀k z fd pd,qal (qb8 k z fd i b (qef ps ch bs n i pd) T) 5=some (.loop ⟨qd3 ps ch bs n i,[23],qi0,qgf,pd⟩):=fun _ _ _ _=>rfl
 have se:qfl (noOwn (qd3 ps ch bs n i)) [23] [sl 3 vel x]=some ((23,sl 3 vel x,false)::qd3 ps ch bs n i):=rfl
 have as_run:∀H,X pr qi0 ⟨(23,sl 3 vel x,false)::qd3 ps ch bs n i,H⟩=some (.normal,⟨qyc ps ch bs n i x,H⟩):=by
  intro H
  simp only[go_sem,seval,qi0,rfA,qnc,pcB,pcL,pcR,qc6,qd3]<;>rfl
 have st0:∀k z fd pd pd',(qb8 k z fd i b (qef ps ch bs n i pd) T).set 5 (.loop ⟨qd3 ps ch bs n i,[23],qi0,qgf,pd'⟩)=qb8 k z fd i b (qef ps ch bs n i pd') T:=fun _ _ _ _ _=>rfl
 have hl:∀k z fd pd,(qb8 k z fd i b (qef ps ch bs n i pd) T).length=els.length+7:=fun _ _ _ _=>by show T.length+6=_;omega
 unfold qvj at h
 obtain⟨v,h1,h⟩:=j0 h
 unfold qbn
 cases v with
 |true=>
  cases h
  obtain⟨en,hb⟩:=jb8 (ps:=ps) (ch:=ch) (bs:=bs) (n:=n) (i:=i) (k:=0) (x:=none) (fd:=false) (lp:=qef ps ch bs n i (some .normal)) (T:=T) h1
  have ha:qac (els.length+7) (.bool true) (qb8 0 none false i b (qef ps ch bs n i none) T)=qb8 0 none false i b (qef ps ch bs n i none) T:=qva (hl _ _ _ _)
  simp only[g0,se,as_run,Option.isNone_none,cT,st0,hl,hb,ha]
  show _=some (qa.bool true,(qf1 ps ch bs n i b).fam.HS ()++els.map kq)
  rw[eH]
 |false=>
  cases h
  obtain⟨en,hb⟩:=jeg (ps:=ps) (ch:=ch) (bs:=bs) (n:=n) (i:=i) (k:=0) (x:=none) (fd:=false) (lp:=qef ps ch bs n i (some .normal)) (T:=T) h1
  have ha:qac (els.length+7) (.bool true) (qb8 i x true i b (qef ps ch bs n i (some (.exit 0))) T)=qb8 i x true i b (qef ps ch bs n i (some (.exit 0))) T:=qva (hl _ _ _ _)
  simp only[g0,se,as_run,Option.isNone_none,cT,st0,hl,hb,ha]
  show _=some (qa.bool false,(qf1 ps ch bs n i b).fam.HD x++els.map kq)
  rw[eD]
def H5 (k:Int)(x:TE)(fd:Bool)(i:Int)(b:qi):ze:=[.cells (c1s 0 none),.cells (c1s k x),.cells [(.bool fd,false)],.cells [(Iv i,false)],.cells (bcs b)]
theorem jf2 {r}(h:vis (qvj b) ch ps false (ch.getD []).length none ()=some r):X pr qnc ⟨qd3 ps ch bs n i,H5 0 none false i b⟩=some (match r with
  | .inl _=>(.normal,⟨qd3 ps ch bs n i,H5 0 none false i b⟩)
  | .inr x=>(.exit 0,⟨qd3 ps ch bs n i,H5 i x true i b⟩)):=by
 have h1:=jmb (qf1 ps ch bs n i b) (jje ps ch bs n i b) h
 rw[jft,qz2]
 unfold qdd
 have hn:(kz qi0&&kz qgf)=true:=rfl
 have he:zf (qd3 ps ch bs n i) (.tmp 22)=some (.fn (.func 196) [] [.vptr (sl 1 zg ch),.vptr (sl 8 zd ps),.vptr (.bool false)]):=rfl
 have hb:∀k x fd,yl 5 (H5 k x fd i b)=true:=by
  intro k x fd
  have h1:Abs.below 5 (sl 3 vel x)=true:=by simp only[go_sem,seval]
  have h2:Abs.below 5 (sl 3 vel none)=true:=by simp only[go_sem,seval]
  show((true&&(Abs.below 5 (sl 3 vel none)&&true))&&((true&&(Abs.below 5 (sl 3 vel x)&&true))&&((true&&true)&&((true&&true)&&((true&&(true&&(true&&(true&&(true&&true)))))&&true)))))=true
  rw[h1,h2];rfl
 simp only[hn,cT,he,List.nil_append,List.cons_append]
 have hl:∀k x fd,(H5 k x fd i b).length=5:=fun _ _ _=>rfl
 have h1':ye pr (X pr) 196 [.fn (.yield (H5 0 none false i b).length) [] [],.vptr (sl 1 zg ch),.vptr (sl 8 zd ps),.vptr (.bool false)] (H5 0 none false i b++[.loop ⟨qd3 ps ch bs n i,[23],qi0,qgf,none⟩])=some (.tup [],false,(qf1 ps ch bs n i b).fam.hr r):=h1
 rw[h1']
 cases r with
 |inl s'=>
  have hg:qal ((qf1 ps ch bs n i b).fam.hr (.inl s')) 5=some (.loop ⟨qd3 ps ch bs n i,[23],qi0,qgf,none⟩):=rfl
  have ht:((qf1 ps ch bs n i b).fam.hr (.inl s')).take 5=H5 0 none false i b:=rfl
  simp only[hl,hg,ht]
  rw[hb]
  rfl
 |inr x=>
  have hg:qal ((qf1 ps ch bs n i b).fam.hr (.inr x)) 5=some (.loop ⟨qd3 ps ch bs n i,[23],qi0,qgf,some (.exit 0)⟩):=rfl
  have ht:((qf1 ps ch bs n i b).fam.hr (.inr x)).take 5=H5 i x true i b:=rfl
  simp only[hl,hg,ht]
  rw[hb]
  rfl
end
def q4n:qe:=pcL qc6
def q3n:qe:=pcL (pcR qc6)
def q3s:qe:=pcL (pcB (pcL (pcR (pcR qc6))))
def q3e:qe:=pcL (pcR (pcB (pcL (pcR (pcR qc6)))))
def q4e:qe:=pcR (pcR (pcR qc6))
theorem ja5:qc6=.seq q4n (.seq q3n (.seq (.block 1 (.seq q3s (.seq q3e (.block 2 qnc)))) q4e)):=rfl
def qjk (ps:TP)(ch:TI)(bs:TB)(i:Int):Option (Int⊕(Int⊕(Int×qi×TE))):=
 cond (decide (i<((bs.getD []).length:Int))) (j5 (yo (bs.getD []) i) fun b=>j5 (vis (qvj b) ch ps false (ch.getD []).length none ()) fun r=>match r with
  | .inl _=>some (.inl (j9 .i64 (i+1)))
  | .inr x=>some (.inr (.inr (i,b,x)))) (some (.inr (.inl i)))
section
variable (ps:TP)(ch:TI)(bs:TB)
def qki (i:Int):qd:=⟨[(0,sl 8 zd ps,false),(1,sl 1 zg ch,false),(6,.ptr 0 0,false),(8,.ptr 1 0,false),(9,.ptr 2 0,false),(13,sl 5 yf bs,false),(14,Lv bs,false),(15,Iv i,false)],[.cells (c1s 0 none),.cells (c1s 0 none),.cells [(.bool false,false)]]⟩
def qt3:Int ⊕ (Int×qi×TE)→qj×qd
 | .inl i=>(.exit 0,⟨[(0,sl 8 zd ps,false),(1,sl 1 zg ch,false),(6,.ptr 0 0,false),(8,.ptr 1 0,false),(9,.ptr 2 0,false),(13,sl 5 yf bs,false),(14,Lv bs,false),(15,Iv i,false),(16,.bool false,false)],[.cells (c1s 0 none),.cells (c1s 0 none),.cells [(.bool false,false)]]⟩)
 | .inr d=>(.exit 0,⟨qd3 ps ch bs ((bs.getD []).length:Int) d.1,H5 d.1 d.2.2 true d.1 d.2.1⟩)
theorem jl3 (i:Int)(r)(h:qjk ps ch bs i=some r):yt pr qc6 (qki ps ch bs) (qt3 ps ch bs) i r:=by
 unfold qjk at h
 have g159:=j31 (ps:=ps) (ch:=ch) (c:=false)
 rcases j4 h with⟨h1,k⟩|⟨h1,k⟩
 ·obtain⟨b,h2,k⟩:=j0 k
  obtain⟨q,h3,k⟩:=j0 k
  have hx:=jf2 ps ch bs ((bs.getD []).length:Int) i b h3
  simp only[qd3,H5,c1s,bcs]at hx
  rw[ja5]
  cases q with
  |inl s=>
   cases k
   dsimp only at hx
   refine qby (st':=⟨[(0,sl 8 zd ps,false),(1,sl 1 zg ch,false),(6,.ptr 0 0,false),(8,.ptr 1 0,false),(9,.ptr 2 0,false),(13,sl 5 yf bs,false),(14,Lv bs,false),(15,Iv (j9 .i64 (i+1)),false)],[.cells (c1s 0 none),.cells (c1s 0 none),.cells [(.bool false,false)]]++[.cells [(Iv i,false)],.cells (bcs b)]⟩) ?_ ?_
   ·simp only[go_sem,seval,q4n,q3n,q3s,q3e,q4e,pcL,pcR,pcB,qc6,qki,c1s,bcs,h1,zm h2,g159,hx]<;>rfl
   ·exact qh9 rfl rfl (by first|simp only[go_sem,seval,qki,c1s]|rfl) (by first|simp only[go_sem,seval,qki,c1s]|rfl)
  |inr x=>
   cases k
   dsimp only at hx
   refine zc ?_
   simp only[go_sem,seval,q4n,q3n,q3s,q3e,q4e,pcL,pcR,pcB,qc6,qki,c1s,bcs,h1,zm h2,g159,hx,qt3,qd3,H5]<;>rfl
 cases k
 exact zc (by simp only[go_sem,seval,qc6,qki,h1,qt3]<;>rfl)
theorem jlk {i:Int}{d}(h:itO (qjk ps ch bs) i=some d):X pr (.loop qc6) (qki ps ch bs i)=some (qt3 ps ch bs d):=kg (jl3 ps ch bs) (fun d=>by rcases d with d|d<;>(intro hh;cases hh)) h
end
def f117 (ps:TP)(ch:TI)(bs:TB):Option (jf×Bool):=
 j5 (itO (qjk ps ch bs) 0) fun d=>match d with
  | .inl _=>some (⟨0,none⟩,false)
  | .inr d=>some (⟨d.1,d.2.2⟩,true)
theorem j23 {ps:TP}{ch:TI}{bs:TB}{r}(h:f117 ps ch bs=some r):zb pr (X pr) 117 [sl 8 zd ps,sl 1 zg ch,sl 5 yf bs]=some (.tup [.agg [Iv r.1.band,sl 3 vel r.1.ladder],.bool r.2],false):=by
 unfold f117 at h
 obtain⟨d,h1,h⟩:=j0 h
 have hl:=jlk ps ch bs h1
 have hnl:sl 3 vel (none:TE)=.list true 0 []:=rfl
 cases d with
 |inl i=>
  cases h
  simp only[qki,qt3,c1s,hnl]at hl
  refine zk c117 ?_
  simp only[go_sem,seval,c117,hl]
  exact⟨_,rfl⟩
 |inr d=>
  cases h
  simp only[qki,qt3,c1s,qd3,H5,bcs,hnl]at hl
  refine zk c117 ?_
  simp only[go_sem,seval,c117,hl]
  exact⟨_,rfl⟩
end Go.Z
end
