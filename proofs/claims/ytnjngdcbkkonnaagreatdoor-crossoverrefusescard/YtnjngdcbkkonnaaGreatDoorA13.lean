/- Chapter 4. -/
import Derived.Test.YtnjngdcbkkonnaaGreatDoorA8
set_option linter.unusedVariables false
set_option linter.unusedSimpArgs false
set_option maxRecDepth 100000
set_option maxHeartbeats 4000000
noncomputable section
namespace Go.Z
open Go Go.Abs
@[go_sem] theorem jon {n:Nat}{x:qa}:Abs.below n (.vptr x)=Abs.below n x:=by simp only[Abs.below]
def f164 (a0:qp)(a1:TE):Option Bool:=
 j5 (f57 a1 a0.w) fun v1=>
 cond (decide (v1.2=0))
  (j5 (f127 (⟨a0.ln,a0.ld⟩) v1.1) fun v4=>
  cond v4
   (some false)
   (j5 (f127 v1.1 (⟨a0.mn,a0.md⟩)) fun v7=>
   some (!v7)))
  (some false)
theorem q75 {a0:qp}{a1:TE}{r}(h:f164 a0 a1=some r):j7 pr (X pr) 164 [.agg [Iv a0.w,Iv a0.ln,Iv a0.ld,Iv a0.mn,Iv a0.md],sl 3 vel a1]=some (.bool r,false):=by
 unfold f164 at h
 obtain⟨v1,h2,h⟩:=jz h
 have wh2:=W57 h2
 rcases j0 h with⟨h3,h⟩|⟨h3,h⟩
 ·obtain⟨v4,h5,h⟩:=jz h
  have wh5:=jcj h5
  rcases j0 h with⟨h6,h⟩|⟨h6,h⟩
  ·obtain rfl:=oi h
   refine zg c164 ?_
   simp only[go_sem,seval,c164,wh2,h3,wh5,h6]
   exact⟨_,rfl⟩
  obtain⟨v7,h8,h⟩:=jz h
  have wh8:=jcj h8
  obtain rfl:=oi h
  refine zg c164 ?_
  simp only[go_sem,seval,c164,wh2,h3,wh5,h6,wh8]
  exact⟨_,rfl⟩
 obtain rfl:=oi h
 refine zg c164 ?_
 simp only[go_sem,seval,c164,wh2,h3]
 exact⟨_,rfl⟩
def f142 (a0:TE)(a1:qp):Option Bool:=
 j5 (f113 a0 a1.w) fun v1=>
 cond (decide (v1.2=0))
  (j5 (f58 200 v1.1 (⟨a1.ln,a1.ld⟩)) fun v4=>
  cond v4
   (some false)
   (j5 (f58 200 (⟨a1.mn,a1.md⟩) v1.1) fun v7=>
   some (!v7)))
  (some false)
theorem jj2 {a0:TE}{a1:qp}{r}(h:f142 a0 a1=some r):j7 pr (X pr) 142 [sl 3 vel a0,.agg [Iv a1.w,Iv a1.ln,Iv a1.ld,Iv a1.mn,Iv a1.md]]=some (.bool r,false):=by
 unfold f142 at h
 obtain⟨v1,h2,h⟩:=jz h
 have wh2:=j0g h2
 rcases j0 h with⟨h3,h⟩|⟨h3,h⟩
 ·obtain⟨v4,h5,h⟩:=jz h
  have wh5:=W58 200 h5
  rcases j0 h with⟨h6,h⟩|⟨h6,h⟩
  ·obtain rfl:=oi h
   refine zg c142 ?_
   simp only[go_sem,seval,c142,wh2,h3,wh5,h6]
   exact⟨_,rfl⟩
  obtain⟨v7,h8,h⟩:=jz h
  have wh8:=W58 200 h8
  obtain rfl:=oi h
  refine zg c142 ?_
  simp only[go_sem,seval,c142,wh2,h3,wh5,h6,wh8]
  exact⟨_,rfl⟩
 obtain rfl:=oi h
 refine zg c142 ?_
 simp only[go_sem,seval,c142,wh2,h3]
 exact⟨_,rfl⟩
def f143 (a0:qh):Option Int:=
 j5 (f109 a0.num 0 1000) fun v1=>
 j5 (f109 a0.den 1 1000) fun v3=>
 j5 (f105 (some [v1,v3])) fun v5=>
 cond (decide (v5=0))
  (j5 (f125 a0.num a0.den) fun v8=>
  j5 (f106 (!(decide (a0.num=v8.num)&&decide (a0.den=v8.den))) 1) fun v10=>
  some v10)
  (some v5)
theorem jnb {a0:qh}{r}(h:f143 a0=some r):j7 pr (X pr) 143 [.agg [Iv a0.num,Iv a0.den]]=some (Iv r,false):=by
 unfold f143 at h
 obtain⟨v1,h2,h⟩:=jz h
 have wh2:=qsg h2
 obtain⟨v3,h4,h⟩:=jz h
 have wh4:=qsg h4
 obtain⟨v5,h6,h⟩:=jz h
 have wh6:j7 pr (X pr) 105 [.list false 1 [Iv v1,Iv v3]]=some (Iv v5,false):=qqp h6
 rcases j0 h with⟨h7,h⟩|⟨h7,h⟩
 ·obtain⟨v8,h9,h⟩:=jz h
  have wh9:=jzb h9
  obtain⟨v10,h11,h⟩:=jz h
  have wh11:=qfp h11
  obtain rfl:=oi h
  refine zg c143 ?_
  simp only[go_sem,seval,c143,wh2,wh4,wh6,h7,wh9,wh11]
  exact⟨_,rfl⟩
 obtain rfl:=oi h
 refine zg c143 ?_
 simp only[go_sem,seval,c143,wh2,wh4,wh6,h7]
 exact⟨_,rfl⟩
def qnc (a0:TB)(s0:Int×Int):Option ((Int×Int)⊕((Int×Int×Int×Int×Int×Int)⊕(Int×Int))):=
 cond (decide (s0.2<((a0.getD []).length:Int)))
  (j5 (yd (a0.getD []) s0.2) fun v41=>
  j5 (f122 v41.w) fun v43=>
  j5 (f143 (⟨v41.ln,v41.ld⟩)) fun v45=>
  j5 (f143 (⟨v41.mn,v41.md⟩)) fun v47=>
  j5 (f105 (some [v43,v45,v47])) fun v49=>
  cond (decide (v49=0))
   (j5 (f127 (⟨v41.ln,v41.ld⟩) (⟨v41.mn,v41.md⟩)) fun v52=>
   cond v52
    (some (.inr (.inl (11,v41.w,v41.ln,v41.ld,v41.mn,v41.md))))
    (cond (decide (v41.w≤s0.1))
     (some (.inr (.inl (11,v41.w,v41.ln,v41.ld,v41.mn,v41.md))))
     (some (.inl (v41.w,za .i64 (s0.2+1))))))
   (some (.inr (.inl (v49,v41.w,v41.ln,v41.ld,v41.mn,v41.md)))))
  (some (.inr (.inr (s0.1,s0.2))))
def qfa (a0:TB)(s0:Int×Int):qc:=⟨[(4,Iv s0.1,false),(21,sl 5 yg a0,false),(22,Lv a0,false),(23,Iv s0.2,false)],[]⟩
def qjj (a0:TB):(Int×Int×Int×Int×Int×Int)⊕(Int×Int)→qi×qc
 | .inl d=>(.ret,⟨[(2,Iv d.1,false)],[.cells [(Iv d.2.1,false),(Iv d.2.2.1,false),(Iv d.2.2.2.1,false),(Iv d.2.2.2.2.1,false),(Iv d.2.2.2.2.2,false)]]⟩)
 | .inr d=>(.exit 0,⟨[(4,Iv d.1,false),(21,sl 5 yg a0,false),(22,Lv a0,false),(23,Iv d.2,false),(24,.bool false,false)],[]⟩)
theorem jqn (a0:TB)(s0:Int×Int)(r)(h:qnc a0 s0=some r):yh pr qmz (qfa a0) (qjj a0) s0 r:=by
 unfold qnc at h
 rcases j0 h with⟨h40,h⟩|⟨h40,h⟩
 ·obtain⟨v41,h42,h⟩:=jz h
  obtain⟨v43,h44,h⟩:=jz h
  have wh44:=j28 h44
  obtain⟨v45,h46,h⟩:=jz h
  have wh46:=jnb h46
  obtain⟨v47,h48,h⟩:=jz h
  have wh48:=jnb h48
  obtain⟨v49,h50,h⟩:=jz h
  have wh50:j7 pr (X pr) 105 [.list false 1 [Iv v43,Iv v45,Iv v47]]=some (Iv v49,false):=qqp h50
  rcases j0 h with⟨h51,h⟩|⟨h51,h⟩
  ·obtain⟨v52,h53,h⟩:=jz h
   have wh53:=jcj h53
   rcases j0 h with⟨h54,h⟩|⟨h54,h⟩
   ·cases h
    exact j8 (by simp only[go_sem,seval,qmz,qfa,h40,zf h42,wh44,wh46,wh48,wh50,h51,wh53,h54,qjj]<;>rfl)
   rcases j0 h with⟨h55,h⟩|⟨h55,h⟩
   ·cases h
    exact j8 (by simp only[go_sem,seval,qmz,qfa,h40,zf h42,wh44,wh46,wh48,wh50,h51,wh53,h54,h55,qjj]<;>rfl)
   cases h
   exact ko (by simp only[go_sem,seval,qmz,qfa,h40,zf h42,wh44,wh46,wh48,wh50,h51,wh53,h54,h55];exact⟨_,rfl⟩) rfl (by first|simp only[go_sem,seval,qfa]|rfl) (by first|simp only[go_sem,seval,qfa]|rfl)
  cases h
  exact j8 (by simp only[go_sem,seval,qmz,qfa,h40,zf h42,wh44,wh46,wh48,wh50,h51,qjj]<;>rfl)
 cases h
 exact j8 (by simp only[go_sem,seval,qmz,qfa,h40,qjj]<;>rfl)
theorem jfj (a0:TB){s0:Int×Int}{d}(h:itO (qnc a0) s0=some d):X pr (.loop qmz) (qfa a0 s0)=some (qjj a0 d):=yo (jqn a0) (fun d=>by rcases d with d|d<;>(intro hh;cases hh)) h
def f81 (a0:TB):Option Int:=
 j5 (f106 (decide (((a0.getD []).length:Int)=0)) 12) fun v1=>
 j5 (f106 (decide (8<((a0.getD []).length:Int))) 5) fun v3=>
 j5 (f105 (some [v1,v3])) fun v5=>
 cond (decide (v5=0))
  (j5 (itO (qnc a0) (0,0)) fun d56=>match d56 with
   | .inl d58=>
    some d58.1
   | .inr d59=>
    some 0)
  (some v5)
theorem W81 {a0:TB}{r}(h:f81 a0=some r):j7 pr (X pr) 81 [sl 5 yg a0]=some (Iv r,false):=by
 unfold f81 at h
 obtain⟨v1,h2,h⟩:=jz h
 have wh2:=qfp h2
 obtain⟨v3,h4,h⟩:=jz h
 have wh4:=qfp h4
 obtain⟨v5,h6,h⟩:=jz h
 have wh6:j7 pr (X pr) 105 [.list false 1 [Iv v1,Iv v3]]=some (Iv v5,false):=qqp h6
 rcases j0 h with⟨h7,h⟩|⟨h7,h⟩
 ·obtain⟨d56,h57,h⟩:=jz h
  rcases d56 with d58|d59
  ·have wh57:=jfj a0 h57
   dsimp only[qfa,qjj]at wh57
   obtain rfl:=oi h
   refine zg c81 ?_
   simp only[go_sem,seval,c81,wh2,wh4,wh6,h7,wh57]
   exact⟨_,rfl⟩
  have wh57:=jfj a0 h57
  dsimp only[qfa,qjj]at wh57
  obtain rfl:=oi h
  refine zg c81 ?_
  simp only[go_sem,seval,c81,wh2,wh4,wh6,h7,wh57]
  exact⟨_,rfl⟩
 obtain rfl:=oi h
 refine zg c81 ?_
 simp only[go_sem,seval,c81,wh2,wh4,wh6,h7]
 exact⟨_,rfl⟩
def f118 (a0:qh):Option Int:=
 j5 (f40 a0.num 0 1000) fun v1=>
 j5 (f40 a0.den 1 1000) fun v3=>
 j5 (f100 (some [v1,v3])) fun v5=>
 cond (decide (v5=0))
  (j5 (f66 a0.num a0.den) fun v8=>
  j5 (f101 (!(decide (a0.num=v8.num)&&decide (a0.den=v8.den))) 1) fun v10=>
  some v10)
  (some v5)
theorem jk2 {a0:qh}{r}(h:f118 a0=some r):j7 pr (X pr) 118 [.agg [Iv a0.num,Iv a0.den]]=some (Iv r,false):=by
 unfold f118 at h
 obtain⟨v1,h2,h⟩:=jz h
 have wh2:=W40 h2
 obtain⟨v3,h4,h⟩:=jz h
 have wh4:=W40 h4
 obtain⟨v5,h6,h⟩:=jz h
 have wh6:j7 pr (X pr) 100 [.list false 1 [Iv v1,Iv v3]]=some (Iv v5,false):=q2y h6
 rcases j0 h with⟨h7,h⟩|⟨h7,h⟩
 ·obtain⟨v8,h9,h⟩:=jz h
  have wh9:=W66 h9
  obtain⟨v10,h11,h⟩:=jz h
  have wh11:=jek h11
  obtain rfl:=oi h
  refine zg c118 ?_
  simp only[go_sem,seval,c118,wh2,wh4,wh6,h7,wh9,wh11]
  exact⟨_,rfl⟩
 obtain rfl:=oi h
 refine zg c118 ?_
 simp only[go_sem,seval,c118,wh2,wh4,wh6,h7]
 exact⟨_,rfl⟩
def f119 (a0:qh)(a1:qh):Option Int:=
 cond (decide ((za .i64 (a0.num*a1.den))<(za .i64 (a1.num*a0.den))))
  (some (-1))
  (cond (decide ((za .i64 (a1.num*a0.den))<(za .i64 (a0.num*a1.den))))
   (some 1)
   (some 0))
theorem jzf {a0:qh}{a1:qh}{r}(h:f119 a0 a1=some r):j7 pr (X pr) 119 [.agg [Iv a0.num,Iv a0.den],.agg [Iv a1.num,Iv a1.den]]=some (Iv r,false):=by
 unfold f119 at h
 rcases j0 h with⟨h1,h⟩|⟨h1,h⟩
 ·obtain rfl:=oi h
  refine zg c119 ?_
  simp only[go_sem,seval,c119,h1]
  exact⟨_,rfl⟩
 rcases j0 h with⟨h2,h⟩|⟨h2,h⟩
 ·obtain rfl:=oi h
  refine zg c119 ?_
  simp only[go_sem,seval,c119,h1,h2]
  exact⟨_,rfl⟩
 obtain rfl:=oi h
 refine zg c119 ?_
 simp only[go_sem,seval,c119,h1,h2]
 exact⟨_,rfl⟩
def qm6 (a0:TB)(s0:Int):Option (Int⊕(Int⊕Int)):=
 cond (decide (s0<((a0.getD []).length:Int)))
  (j5 (yd (a0.getD []) s0) fun v38=>
  j5 (f34 v38.w) fun v40=>
  j5 (f118 (⟨v38.ln,v38.ld⟩)) fun v42=>
  j5 (f118 (⟨v38.mn,v38.md⟩)) fun v44=>
  j5 (f100 (some [v40,v42,v44])) fun v46=>
  cond (decide (v46=0))
   (j5 (f119 (⟨v38.ln,v38.ld⟩) (⟨v38.mn,v38.md⟩)) fun v49=>
   cond (decide (0<v49))
    (some (.inr (.inl 11)))
    (cond (decide (0<s0))
     (j5 (yd (a0.getD []) (za .i64 (s0-1))) fun v53=>
     cond (decide (v38.w≤v53.w))
      (some (.inr (.inl 11)))
      (some (.inl (za .i64 (s0+1)))))
     (some (.inl (za .i64 (s0+1))))))
   (some (.inr (.inl v46))))
  (some (.inr (.inr s0)))
def qf5 (a0:TB)(s0:Int):qc:=⟨[(0,sl 5 yg a0,false),(3,Iv s0,false)],[]⟩
def qje (a0:TB):Int⊕Int→qi×qc
 | .inl d=>(.ret,⟨[(2,Iv d,false)],[]⟩)
 | .inr d=>(.exit 0,⟨[(0,sl 5 yg a0,false),(3,Iv d,false),(14,.bool false,false)],[]⟩)
theorem jri (a0:TB)(s0:Int)(r)(h:qm6 a0 s0=some r):yh pr qj1 (qf5 a0) (qje a0) s0 r:=by
 unfold qm6 at h
 rcases j0 h with⟨h37,h⟩|⟨h37,h⟩
 ·obtain⟨v38,h39,h⟩:=jz h
  obtain⟨v40,h41,h⟩:=jz h
  have wh41:=W34 h41
  obtain⟨v42,h43,h⟩:=jz h
  have wh43:=jk2 h43
  obtain⟨v44,h45,h⟩:=jz h
  have wh45:=jk2 h45
  obtain⟨v46,h47,h⟩:=jz h
  have wh47:j7 pr (X pr) 100 [.list false 1 [Iv v40,Iv v42,Iv v44]]=some (Iv v46,false):=q2y h47
  rcases j0 h with⟨h48,h⟩|⟨h48,h⟩
  ·obtain⟨v49,h50,h⟩:=jz h
   have wh50:=jzf h50
   rcases j0 h with⟨h51,h⟩|⟨h51,h⟩
   ·cases h
    exact j8 (by simp only[go_sem,seval,qj1,qf5,h37,zf h39,wh41,wh43,wh45,wh47,h48,wh50,h51,qje]<;>rfl)
   rcases j0 h with⟨h52,h⟩|⟨h52,h⟩
   ·obtain⟨v53,h54,h⟩:=jz h
    rcases j0 h with⟨h55,h⟩|⟨h55,h⟩
    ·cases h
     exact j8 (by simp only[go_sem,seval,qj1,qf5,h37,zf h39,wh41,wh43,wh45,wh47,h48,wh50,h51,h52,zf h54,h55,qje]<;>rfl)
    cases h
    exact zp (by simp only[go_sem,seval,qj1,qf5,h37,zf h39,wh41,wh43,wh45,wh47,h48,wh50,h51,h52,zf h54,h55]<;>rfl)
   cases h
   exact zp (by simp only[go_sem,seval,qj1,qf5,h37,zf h39,wh41,wh43,wh45,wh47,h48,wh50,h51,h52]<;>rfl)
  cases h
  exact j8 (by simp only[go_sem,seval,qj1,qf5,h37,zf h39,wh41,wh43,wh45,wh47,h48,qje]<;>rfl)
 cases h
 exact j8 (by simp only[go_sem,seval,qj1,qf5,h37,qje]<;>rfl)
theorem jga (a0:TB){s0:Int}{d}(h:itO (qm6 a0) s0=some d):X pr (.loop qj1) (qf5 a0 s0)=some (qje a0 d):=yo (jri a0) (fun d=>by rcases d with d|d<;>(intro hh;cases hh)) h
def f39 (a0:TB):Option Int:=
 cond (decide (((a0.getD []).length:Int)=0))
  (some 12)
  (cond (decide (8<((a0.getD []).length:Int)))
   (some 5)
   (j5 (itO (qm6 a0) 0) fun d56=>match d56 with
    | .inl d58=>
     some d58
    | .inr d59=>
     some 0))
theorem W39 {a0:TB}{r}(h:f39 a0=some r):j7 pr (X pr) 39 [sl 5 yg a0]=some (Iv r,false):=by
 unfold f39 at h
 rcases j0 h with⟨h1,h⟩|⟨h1,h⟩
 ·obtain rfl:=oi h
  refine zg c39 ?_
  simp only[go_sem,seval,c39,h1]
  exact⟨_,rfl⟩
 rcases j0 h with⟨h2,h⟩|⟨h2,h⟩
 ·obtain rfl:=oi h
  refine zg c39 ?_
  simp only[go_sem,seval,c39,h1,h2]
  exact⟨_,rfl⟩
 obtain⟨d56,h57,h⟩:=jz h
 rcases d56 with d58|d59
 ·have wh57:=jga a0 h57
  dsimp only[qf5,qje]at wh57
  obtain rfl:=oi h
  refine zg c39 ?_
  simp only[go_sem,seval,c39,h1,h2,wh57]
  exact⟨_,rfl⟩
 have wh57:=jga a0 h57
 dsimp only[qf5,qje]at wh57
 obtain rfl:=oi h
 refine zg c39 ?_
 simp only[go_sem,seval,c39,h1,h2,wh57]
 exact⟨_,rfl⟩
def qqd (a0:TB)(s0:TB×Int×Bool):Option ((TB×Int×Bool)⊕((TB×Bool×Int))):=
 cond (decide (s0.2.1<((a0.getD []).length:Int)))
  (j5 (yd (a0.getD []) s0.2.1) fun v14=>
  cond s0.2.2
   (j5 (apO s0.1 [v14]) fun v17=>
   some (.inl (v17,za .i64 (s0.2.1+1),true)))
   (cond s0.1.isNone
    (j5 (apO s0.1 [v14]) fun v20=>
    some (.inl (v20,za .i64 (s0.2.1+1),true)))
    (none)))
  (some (.inr (s0.1,s0.2.2,s0.2.1)))
def qfx (a0:TB)(s0:TB×Int×Bool):qc:=⟨[(3,sl 5 yg s0.1,s0.2.2),(6,sl 5 yg a0,false),(7,Lv a0,false),(8,Iv s0.2.1,false)],[]⟩
def qxd (a0:TB)(d:(TB×Bool×Int)):qi×qc:=(.exit 0,⟨[(3,sl 5 yg d.1,d.2.1),(6,sl 5 yg a0,false),(7,Lv a0,false),(8,Iv d.2.2,false),(9,.bool false,false)],[]⟩)
theorem jug (a0:TB)(s0:TB×Int×Bool)(r)(h:qqd a0 s0=some r):yh pr quy (qfx a0) (qxd a0) s0 r:=by
 unfold qqd at h
 rcases j0 h with⟨h13,h⟩|⟨h13,h⟩
 ·obtain⟨v14,h15,h⟩:=jz h
  rcases j0 h with⟨h16,h⟩|⟨h16,h⟩
  ·obtain⟨v17,h18,h⟩:=jz h
   cases h
   exact ko (by simp only[go_sem,seval,quy,qfx,h13,zf h15,h16,q42 h18];exact⟨_,rfl⟩) rfl (by first|simp only[go_sem,seval,qfx]|rfl) (by first|simp only[go_sem,seval,qfx]|rfl)
  rcases j0 h with⟨h19,h⟩|⟨h19,h⟩
  ·obtain⟨v20,h21,h⟩:=jz h
   cases h
   exact ko (by simp only[go_sem,seval,quy,qfx,h13,zf h15,h16,h19,q5r h21 h19];exact⟨_,rfl⟩) rfl (by first|simp only[go_sem,seval,qfx]|rfl) (by first|simp only[go_sem,seval,qfx]|rfl)
  cases h
 cases h
 exact j8 (by simp only[go_sem,seval,quy,qfx,h13,qxd]<;>rfl)
theorem jsx (a0:TB){s0:TB×Int×Bool}{d}(h:itO (qqd a0) s0=some d):X pr (.loop quy) (qfx a0 s0)=some (qxd a0 d):=yo (jug a0) (fun d hh=>by cases hh) h
def f38 (a0:TB):Option (TB×Bool):=
 j5 (itO (qqd a0) (none,0,false)) fun d22=>
 some (d22.1,d22.2.1)
theorem W38 {a0:TB}{r}(h:f38 a0=some r):j7 pr (X pr) 38 [sl 5 yg a0]=some (sl 5 yg r.1,r.2):=by
 unfold f38 at h
 obtain⟨d22,h23,h⟩:=jz h
 have wh23:=jsx a0 h23
 dsimp only[qfx,qxd,qc9]at wh23
 obtain rfl:=oi h
 refine qcb c38 ?_
 simp only[go_sem,seval,c38,wh23]
 exact⟨_,rfl⟩
def f78 (a0:qq):Option qq:=
 j5 (f46 a0.ladder) fun v1=>
 some (⟨a0.band,v1.1⟩)
theorem W78 {a0:qq}{r}(h:f78 a0=some r):j7 pr (X pr) 78 [.agg [Iv a0.band,sl 3 vel a0.ladder]]=some (.agg [Iv r.band,sl 3 vel r.ladder],false):=by
 unfold f78 at h
 obtain⟨v1,h2,h⟩:=jz h
 have wh2:=W46 h2
 obtain rfl:=oi h
 refine zg c78 ?_
 simp only[go_sem,seval,c78,wh2]
 exact⟨_,rfl⟩
def f83 (a0:qq):Option qq:=
 j5 (f27 a0.ladder) fun v1=>
 some (⟨a0.band,v1.1⟩)
theorem W83 {a0:qq}{r}(h:f83 a0=some r):j7 pr (X pr) 83 [.agg [Iv a0.band,sl 3 vel a0.ladder]]=some (.agg [Iv r.band,sl 3 vel r.ladder],false):=by
 unfold f83 at h
 obtain⟨v1,h2,h⟩:=jz h
 have wh2:=W27 h2
 obtain rfl:=oi h
 refine zg c83 ?_
 simp only[go_sem,seval,c83,wh2]
 exact⟨_,rfl⟩
def f82 (a0:qq)(a1:qq):Option Bool:=
 cond (decide (a0.band=a1.band))
  (j5 (f26 a0.ladder a1.ladder) fun v2=>
  some v2)
  (some false)
theorem W82 {a0:qq}{a1:qq}{r}(h:f82 a0 a1=some r):j7 pr (X pr) 82 [.agg [Iv a0.band,sl 3 vel a0.ladder],.agg [Iv a1.band,sl 3 vel a1.ladder]]=some (.bool r,false):=by
 unfold f82 at h
 rcases j0 h with⟨h1,h⟩|⟨h1,h⟩
 ·obtain⟨v2,h3,h⟩:=jz h
  have wh3:=W26 h3
  obtain rfl:=oi h
  refine zg c82 ?_
  simp only[go_sem,seval,c82,h1,wh3]
  exact⟨_,rfl⟩
 obtain rfl:=oi h
 refine zg c82 ?_
 simp only[go_sem,seval,c82,h1]
 exact⟨_,rfl⟩
def f182 (a0:qk)(c0_0:List UInt8)(c0_1:Int)(c0_2:Int):Option Bool:=
 some (decide (a0.kind=c0_0)&&decide (a0.a=c0_1)&&decide (a0.b=c0_2))
theorem jz2 {a0:qk}{c0_0:List UInt8}{c0_1:Int}{c0_2:Int}{r}(h:f182 a0 c0_0 c0_1 c0_2=some r):yk pr (X pr) 182 [.agg [.str a0.kind,Iv a0.a,Iv a0.b],.ptr 0 0] [.cells [(.str c0_0,false),(Iv c0_1,false),(Iv c0_2,false)]]=some (.bool r,false,[.cells [(.str c0_0,false),(Iv c0_1,false),(Iv c0_2,false)]]):=by
 unfold f182 at h
 have hr:(decide (a0.kind=c0_0)&&decide (a0.a=c0_1)&&decide (a0.b=c0_2))=r:=Option.some.inj h
 subst hr
 rw[qak (show pr.fns 182=some c182 from rfl) (by simp)]
 simp only[go_sem,seval,c182]<;>rfl
def qit (a0:TE)(c0_0:List UInt8)(c0_1:Int)(c0_2:Int)(s0:Int):Option (Int⊕(Int⊕Int)):=
 cond (decide (s0<((a0.getD []).length:Int)))
  (j5 (yd (a0.getD []) s0) fun v14=>
  j5 (f182 v14 c0_0 c0_1 c0_2) fun v16=>
  cond v16
   (some (.inr (.inl s0)))
   (some (.inl (za .i64 (s0+1)))))
  (some (.inr (.inr s0)))
def qh2 (a0:TE)(c0_0:List UInt8)(c0_1:Int)(c0_2:Int)(s0:Int):qc:=⟨[(0,sl 3 vel a0,false),(1,.fn (.func 182) [] [.ptr 0 0],false),(7,Lv a0,false),(8,Iv s0,false)],[.cells [(.str c0_0,false),(Iv c0_1,false),(Iv c0_2,false)]]⟩
def qk0 (a0:TE)(c0_0:List UInt8)(c0_1:Int)(c0_2:Int):Int⊕Int→qi×qc
 | .inl d=>(.ret,⟨[(4,Iv d,false)],[.cells [(.str c0_0,false),(Iv c0_1,false),(Iv c0_2,false)]]⟩)
 | .inr d=>(.exit 0,⟨[(0,sl 3 vel a0,false),(1,.fn (.func 182) [] [.ptr 0 0],false),(7,Lv a0,false),(8,Iv d,false),(9,.bool false,false)],[.cells [(.str c0_0,false),(Iv c0_1,false),(Iv c0_2,false)]]⟩)
theorem jm6 (a0:TE)(c0_0:List UInt8)(c0_1:Int)(c0_2:Int)(s0:Int)(r)(h:qit a0 c0_0 c0_1 c0_2 s0=some r):yh pr qor (qh2 a0 c0_0 c0_1 c0_2) (qk0 a0 c0_0 c0_1 c0_2) s0 r:=by
 unfold qit at h
 rcases j0 h with⟨h13,h⟩|⟨h13,h⟩
 ·obtain⟨v14,h15,h⟩:=jz h
  obtain⟨v16,h17,h⟩:=jz h
  have wh17:yk pr (X pr) 182 [.agg [.str v14.kind,Iv v14.a,Iv v14.b],.ptr 0 0] [.cells [(.str c0_0,false),(Iv c0_1,false),(Iv c0_2,false)]]=some (.bool v16,false,[.cells [(.str c0_0,false),(Iv c0_1,false),(Iv c0_2,false)]]):=jz2 h17
  rcases j0 h with⟨h18,h⟩|⟨h18,h⟩
  ·cases h
   exact j8 (by simp only[go_sem,seval,qor,qh2,h13,zf h15,wh17,h18,qk0]<;>rfl)
  cases h
  exact zp (by simp only[go_sem,seval,qor,qh2,h13,zf h15,wh17,h18]<;>rfl)
 cases h
 exact j8 (by simp only[go_sem,seval,qor,qh2,h13,qk0]<;>rfl)
theorem q9y (a0:TE)(c0_0:List UInt8)(c0_1:Int)(c0_2:Int){s0:Int}{d}(h:itO (qit a0 c0_0 c0_1 c0_2) s0=some d):X pr (.loop qor) (qh2 a0 c0_0 c0_1 c0_2 s0)=some (qk0 a0 c0_0 c0_1 c0_2 d):=yo (jm6 a0 c0_0 c0_1 c0_2) (fun d=>by rcases d with d|d<;>(intro hh;cases hh)) h
def f210 (a0:TE)(c0_0:List UInt8)(c0_1:Int)(c0_2:Int):Option Int:=
 j5 (itO (qit a0 c0_0 c0_1 c0_2) 0) fun d19=>match d19 with
  | .inl d21=>
   some d21
  | .inr d22=>
   some (-1)
theorem j3c {a0:TE}{c0_0:List UInt8}{c0_1:Int}{c0_2:Int}{r}(h:f210 a0 c0_0 c0_1 c0_2=some r):yk pr (X pr) 210 [sl 3 vel a0,.fn (.func 182) [] [.ptr 0 0]] [.cells [(.str c0_0,false),(Iv c0_1,false),(Iv c0_2,false)]]=some (Iv r,false,[.cells [(.str c0_0,false),(Iv c0_1,false),(Iv c0_2,false)]]):=by
 unfold f210 at h
 obtain⟨d19,h20,h⟩:=jz h
 rcases d19 with d21|d22
 ·have wh20:=q9y a0 c0_0 c0_1 c0_2 h20
  dsimp only[qh2,qk0]at wh20
  have hr:d21=r:=Option.some.inj h
  subst hr
  rw[qak (show pr.fns 210=some c210 from rfl) (by simp)]
  simp only[go_sem,seval,c210,wh20]<;>rfl
 have wh20:=q9y a0 c0_0 c0_1 c0_2 h20
 dsimp only[qh2,qk0]at wh20
 have hr:(-1)=r:=Option.some.inj h
 subst hr
 rw[qak (show pr.fns 210=some c210 from rfl) (by simp)]
 simp only[go_sem,seval,c210,wh20]<;>rfl
def f180 (a0:TE)(c0_0:List UInt8)(c0_1:Int)(c0_2:Int):Option Bool:=
 j5 (f210 a0 c0_0 c0_1 c0_2) fun v1=>
 some (decide (0≤v1))
theorem jlq {a0:TE}{c0_0:List UInt8}{c0_1:Int}{c0_2:Int}{r}(h:f180 a0 c0_0 c0_1 c0_2=some r):yk pr (X pr) 180 [sl 3 vel a0,.fn (.func 182) [] [.ptr 0 0]] [.cells [(.str c0_0,false),(Iv c0_1,false),(Iv c0_2,false)]]=some (.bool r,false,[.cells [(.str c0_0,false),(Iv c0_1,false),(Iv c0_2,false)]]):=by
 unfold f180 at h
 obtain⟨v1,h2,h⟩:=jz h
 have wh2:yk pr (X pr) 210 [sl 3 vel a0,.fn (.func 182) [] [.ptr 0 0]] [.cells [(.str c0_0,false),(Iv c0_1,false),(Iv c0_2,false)]]=some (Iv v1,false,[.cells [(.str c0_0,false),(Iv c0_1,false),(Iv c0_2,false)]]):=j3c h2
 have hr:decide (0≤v1)=r:=Option.some.inj h
 subst hr
 rw[qak (show pr.fns 180=some c180 from rfl) (by simp)]
 simp only[go_sem,seval,c180,wh2]<;>rfl
def qg6 (a0:qq)(a1:TP)(a2:TI)(a3:TB)(s0:Int):Option (Int⊕(((List UInt8)×Int×Int)⊕Int)):=
 cond (decide (s0<((a0.ladder.getD []).length:Int)))
  (j5 (yd (a0.ladder.getD []) s0) fun v34=>
  j5 (yd (a2.getD []) s0) fun v36=>
  j5 (yd (a1.getD []) v36) fun v38=>
  j5 (f99 v38 false) fun v40=>
  j5 (f180 v40.1 v34.kind v34.a v34.b) fun v42=>
  cond v42
   (some (.inl (za .i64 (s0+1))))
   (some (.inr (.inl (v34.kind,v34.a,v34.b)))))
  (some (.inr (.inr s0)))
def qfh (a0:qq)(a1:TP)(a2:TI)(a3:TB)(s0:Int):qc:=⟨[(1,sl 8 zi a1,false),(2,sl 1 zh a2,false),(3,sl 5 yg a3,false),(4,.vptr (.agg [Iv a0.band,sl 3 vel a0.ladder]),false),(37,sl 3 vel a0.ladder,false),(38,Lv a0.ladder,false),(39,Iv s0,false)],[]⟩
def qkk (a0:qq)(a1:TP)(a2:TI)(a3:TB):((List UInt8)×Int×Int)⊕Int→qi×qc
 | .inl d=>(.ret,⟨[(8,Iv 1,false)],[.cells [(.str d.1,false),(Iv d.2.1,false),(Iv d.2.2,false)]]⟩)
 | .inr d=>(.exit 0,⟨[(1,sl 8 zi a1,false),(2,sl 1 zh a2,false),(3,sl 5 yg a3,false),(4,.vptr (.agg [Iv a0.band,sl 3 vel a0.ladder]),false),(37,sl 3 vel a0.ladder,false),(38,Lv a0.ladder,false),(39,Iv d,false),(40,.bool false,false)],[]⟩)
theorem jk1 (a0:qq)(a1:TP)(a2:TI)(a3:TB)(s0:Int)(r)(h:qg6 a0 a1 a2 a3 s0=some r):yh pr qew (qfh a0 a1 a2 a3) (qkk a0 a1 a2 a3) s0 r:=by
 unfold qg6 at h
 rcases j0 h with⟨h33,h⟩|⟨h33,h⟩
 ·obtain⟨v34,h35,h⟩:=jz h
  obtain⟨v36,h37,h⟩:=jz h
  obtain⟨v38,h39,h⟩:=jz h
  obtain⟨v40,h41,h⟩:=jz h
  have wh41:=W99 h41
  obtain⟨v42,h43,h⟩:=jz h
  have wh43:yk pr (X pr) 180 [sl 3 vel v40.1,.fn (.func 182) [] [.ptr 0 0]] [.cells [(.str v34.kind,false),(Iv v34.a,false),(Iv v34.b,false)]]=some (.bool v42,false,[.cells [(.str v34.kind,false),(Iv v34.a,false),(Iv v34.b,false)]]):=jlq h43
  rcases j0 h with⟨h44,h⟩|⟨h44,h⟩
  ·cases h
   exact ko (by simp only[go_sem,seval,qew,qfh,h33,zf h35,zf h37,zf h39,wh41,wh43,h44];exact⟨_,rfl⟩) rfl (by first|simp only[go_sem,seval,qfh]|rfl) (by first|simp only[go_sem,seval,qfh]|rfl)
  cases h
  exact j8 (by simp only[go_sem,seval,qew,qfh,h33,zf h35,zf h37,zf h39,wh41,wh43,h44,qkk]<;>rfl)
 cases h
 exact j8 (by simp only[go_sem,seval,qew,qfh,h33,qkk]<;>rfl)
theorem jbo (a0:qq)(a1:TP)(a2:TI)(a3:TB){s0:Int}{d}(h:itO (qg6 a0 a1 a2 a3) s0=some d):X pr (.loop qew) (qfh a0 a1 a2 a3 s0)=some (qkk a0 a1 a2 a3 d):=yo (jk1 a0 a1 a2 a3) (fun d=>by rcases d with d|d<;>(intro hh;cases hh)) h
def qt9 (a0:qq)(a1:TP)(a2:TI)(a3:TB)(s0:Int):Option (Int⊕(((List UInt8)×Int×Int)⊕Int)):=
 cond (decide (s0<((a0.ladder.getD []).length:Int)))
  (j5 (yd (a0.ladder.getD []) s0) fun v87=>
  j5 (yd (a2.getD []) s0) fun v89=>
  j5 (yd (a1.getD []) v89) fun v91=>
  j5 (f99 v91 false) fun v93=>
  j5 (f180 v93.1 v87.kind v87.a v87.b) fun v95=>
  cond v95
   (some (.inl (za .i64 (s0+1))))
   (some (.inr (.inl (v87.kind,v87.a,v87.b)))))
  (some (.inr (.inr s0)))
def qd3 (a0:qq)(a1:TP)(a2:TI)(a3:TB)(s0:Int):qc:=⟨[(1,sl 8 zi a1,false),(2,sl 1 zh a2,false),(3,sl 5 yg a3,false),(4,.vptr (.agg [Iv a0.band,sl 3 vel a0.ladder]),false),(37,sl 3 vel a0.ladder,false),(38,Lv a0.ladder,false),(39,Iv s0,false)],[]⟩
def qhp (a0:qq)(a1:TP)(a2:TI)(a3:TB):((List UInt8)×Int×Int)⊕Int→qi×qc
 | .inl d=>(.ret,⟨[(8,Iv 1,false)],[.cells [(.str d.1,false),(Iv d.2.1,false),(Iv d.2.2,false)]]⟩)
 | .inr d=>(.exit 0,⟨[(1,sl 8 zi a1,false),(2,sl 1 zh a2,false),(3,sl 5 yg a3,false),(4,.vptr (.agg [Iv a0.band,sl 3 vel a0.ladder]),false),(37,sl 3 vel a0.ladder,false),(38,Lv a0.ladder,false),(39,Iv d,false),(40,.bool false,false)],[]⟩)
theorem jie (a0:qq)(a1:TP)(a2:TI)(a3:TB)(s0:Int)(r)(h:qt9 a0 a1 a2 a3 s0=some r):yh pr qew (qd3 a0 a1 a2 a3) (qhp a0 a1 a2 a3) s0 r:=by
 unfold qt9 at h
 rcases j0 h with⟨h86,h⟩|⟨h86,h⟩
 ·obtain⟨v87,h88,h⟩:=jz h
  obtain⟨v89,h90,h⟩:=jz h
  obtain⟨v91,h92,h⟩:=jz h
  obtain⟨v93,h94,h⟩:=jz h
  have wh94:=W99 h94
  obtain⟨v95,h96,h⟩:=jz h
  have wh96:yk pr (X pr) 180 [sl 3 vel v93.1,.fn (.func 182) [] [.ptr 0 0]] [.cells [(.str v87.kind,false),(Iv v87.a,false),(Iv v87.b,false)]]=some (.bool v95,false,[.cells [(.str v87.kind,false),(Iv v87.a,false),(Iv v87.b,false)]]):=jlq h96
  rcases j0 h with⟨h97,h⟩|⟨h97,h⟩
  ·cases h
   exact ko (by simp only[go_sem,seval,qew,qd3,h86,zf h88,zf h90,zf h92,wh94,wh96,h97];exact⟨_,rfl⟩) rfl (by first|simp only[go_sem,seval,qd3]|rfl) (by first|simp only[go_sem,seval,qd3]|rfl)
  cases h
  exact j8 (by simp only[go_sem,seval,qew,qd3,h86,zf h88,zf h90,zf h92,wh94,wh96,h97,qhp]<;>rfl)
 cases h
 exact j8 (by simp only[go_sem,seval,qew,qd3,h86,qhp]<;>rfl)
theorem q6p (a0:qq)(a1:TP)(a2:TI)(a3:TB){s0:Int}{d}(h:itO (qt9 a0 a1 a2 a3) s0=some d):X pr (.loop qew) (qd3 a0 a1 a2 a3 s0)=some (qhp a0 a1 a2 a3 d):=yo (jie a0 a1 a2 a3) (fun d=>by rcases d with d|d<;>(intro hh;cases hh)) h
def f141 (a0:qq)(a1:TP)(a2:TI)(a3:TB):Option Int:=
 cond (decide (a0.band<0))
  (j5 (f106 true 10) fun v2=>
  j5 (f106 (!decide (((a0.ladder.getD []).length:Int)=((a2.getD []).length:Int))) 2) fun v4=>
  j5 (f105 (some [v2,v4])) fun v6=>
  cond (decide (v6=0))
   (j5 (itO (qg6 a0 a1 a2 a3) 0) fun d45=>match d45 with
    | .inl d47=>
     some 1
    | .inr d48=>
     j5 (yd (a3.getD []) a0.band) fun v49=>
     j5 (f164 v49 a0.ladder) fun v51=>
     j5 (f106 v51 22) fun v53=>
     some v53)
   (some v6))
  (j5 (f106 (decide (((a3.getD []).length:Int)≤a0.band)) 10) fun v55=>
  j5 (f106 (!decide (((a0.ladder.getD []).length:Int)=((a2.getD []).length:Int))) 2) fun v57=>
  j5 (f105 (some [v55,v57])) fun v59=>
  cond (decide (v59=0))
   (j5 (itO (qt9 a0 a1 a2 a3) 0) fun d98=>match d98 with
    | .inl d100=>
     some 1
    | .inr d101=>
     j5 (yd (a3.getD []) a0.band) fun v102=>
     j5 (f164 v102 a0.ladder) fun v104=>
     j5 (f106 v104 22) fun v106=>
     some v106)
   (some v59))
theorem j03 {a0:qq}{a1:TP}{a2:TI}{a3:TB}{r}(h:f141 a0 a1 a2 a3=some r):j7 pr (X pr) 141 [.agg [Iv a0.band,sl 3 vel a0.ladder],sl 8 zi a1,sl 1 zh a2,sl 5 yg a3]=some (Iv r,false):=by
 unfold f141 at h
 rcases j0 h with⟨h1,h⟩|⟨h1,h⟩
 ·obtain⟨v2,h3,h⟩:=jz h
  obtain⟨v4,h5,h⟩:=jz h
  have wh5:=qfp h5
  obtain⟨v6,h7,h⟩:=jz h
  have wh7:j7 pr (X pr) 105 [.list false 1 [Iv v2,Iv v4]]=some (Iv v6,false):=qqp h7
  rcases j0 h with⟨h8,h⟩|⟨h8,h⟩
  ·obtain⟨d45,h46,h⟩:=jz h
   rcases d45 with d47|d48
   ·have wh46:=jbo a0 a1 a2 a3 h46
    dsimp only[qfh,qkk]at wh46
    obtain rfl:=oi h
    refine zg c141 ?_
    simp only[go_sem,seval,c141,h1,qfp h3,wh5,wh7,h8,wh46]
    exact⟨_,rfl⟩
   have wh46:=jbo a0 a1 a2 a3 h46
   dsimp only[qfh,qkk]at wh46
   obtain⟨v49,h50,h⟩:=jz h
   obtain⟨v51,h52,h⟩:=jz h
   have wh52:=q75 h52
   obtain⟨v53,h54,h⟩:=jz h
   obtain rfl:=oi h
   refine zg c141 ?_
   simp only[go_sem,seval,c141,h1,qfp h3,wh5,wh7,h8,wh46,zf h50,wh52,qfp h54]
   exact⟨_,rfl⟩
  obtain rfl:=oi h
  refine zg c141 ?_
  simp only[go_sem,seval,c141,h1,qfp h3,wh5,wh7,h8]
  exact⟨_,rfl⟩
 obtain⟨v55,h56,h⟩:=jz h
 have wh56:=qfp h56
 obtain⟨v57,h58,h⟩:=jz h
 have wh58:=qfp h58
 obtain⟨v59,h60,h⟩:=jz h
 have wh60:j7 pr (X pr) 105 [.list false 1 [Iv v55,Iv v57]]=some (Iv v59,false):=qqp h60
 rcases j0 h with⟨h61,h⟩|⟨h61,h⟩
 ·obtain⟨d98,h99,h⟩:=jz h
  rcases d98 with d100|d101
  ·have wh99:=q6p a0 a1 a2 a3 h99
   dsimp only[qd3,qhp]at wh99
   obtain rfl:=oi h
   refine zg c141 ?_
   simp only[go_sem,seval,c141,h1,wh56,wh58,wh60,h61,wh99]
   exact⟨_,rfl⟩
  have wh99:=q6p a0 a1 a2 a3 h99
  dsimp only[qd3,qhp]at wh99
  obtain⟨v102,h103,h⟩:=jz h
  obtain⟨v104,h105,h⟩:=jz h
  have wh105:=q75 h105
  obtain⟨v106,h107,h⟩:=jz h
  obtain rfl:=oi h
  refine zg c141 ?_
  simp only[go_sem,seval,c141,h1,wh56,wh58,wh60,h61,wh99,zf h103,wh105,qfp h107]
  exact⟨_,rfl⟩
 obtain rfl:=oi h
 refine zg c141 ?_
 simp only[go_sem,seval,c141,h1,wh56,wh58,wh60,h61]
 exact⟨_,rfl⟩
def qm0 (a2:TB)(v1:TTE×Bool)(s0:Int)(s1:Int):Option (Int⊕(TE⊕Int)):=
 cond (decide (s1<((v1.1.getD []).length:Int)))
  (j5 (yd (v1.1.getD []) s1) fun v79=>
  j5 (yd (a2.getD []) s0) fun v81=>
  j5 (f142 v79 v81) fun v83=>
  cond v83
   (some (.inl (za .i64 (s1+1))))
   (some (.inr (.inl v79))))
  (some (.inr (.inr s1)))
def ql8 (a2:TB)(v1:TTE×Bool)(s0:Int)(s1:Int):qc:=⟨[(2,sl 5 yg a2,false),(6,.ptr 0 0,false),(8,sl 1 (sl 3 vel) v1.1,v1.2),(9,Iv s0,false),(10,Iv s1,false)],[.cells [(Iv 0,false),(.list true 0 [],false)]]⟩
def qn2 (a2:TB)(v1:TTE×Bool)(s0:Int):TE⊕Int→qi×qc
 | .inl d=>(.ret,⟨[(6,.ptr 0 0,false),(7,.bool true,false)],[.cells [(Iv s0,false),(sl 3 vel d,false)]]⟩)
 | .inr d=>(.exit 2,⟨[(2,sl 5 yg a2,false),(6,.ptr 0 0,false),(8,sl 1 (sl 3 vel) v1.1,v1.2),(9,Iv s0,false),(10,Iv d,false),(23,.bool false,false)],[.cells [(Iv 0,false),(.list true 0 [],false)]]⟩)
theorem jvf (a2:TB)(v1:TTE×Bool)(s0:Int)(s1:Int)(r)(h:qm0 a2 v1 s0 s1=some r):yh pr qub (ql8 a2 v1 s0) (qn2 a2 v1 s0) s1 r:=by
 unfold qm0 at h
 rcases j0 h with⟨h78,h⟩|⟨h78,h⟩
 ·obtain⟨v79,h80,h⟩:=jz h
  obtain⟨v81,h82,h⟩:=jz h
  obtain⟨v83,h84,h⟩:=jz h
  have wh84:=jj2 h84
  rcases j0 h with⟨h85,h⟩|⟨h85,h⟩
  ·cases h
   exact zp (by simp only[go_sem,seval,qub,ql8,h78,zf h80,zf h82,wh84,h85]<;>rfl)
  cases h
  exact j8 (by simp only[go_sem,seval,qub,ql8,h78,zf h80,zf h82,wh84,h85,qn2]<;>rfl)
 cases h
 exact j8 (by simp only[go_sem,seval,qub,ql8,h78,qn2]<;>rfl)
theorem jfh (a2:TB)(v1:TTE×Bool)(s0:Int){s1:Int}{d}(h:itO (qm0 a2 v1 s0) s1=some d):X pr (.loop qub) (ql8 a2 v1 s0 s1)=some (qn2 a2 v1 s0 d):=yo (jvf a2 v1 s0) (fun d=>by rcases d with d|d<;>(intro hh;cases hh)) h
def qmy (a2:TB)(v1:TTE×Bool)(s0:Int):Option (Int⊕((Int×TE)⊕Int)):=
 cond (decide (s0<((a2.getD []).length:Int)))
  (j5 (itO (qm0 a2 v1 s0) 0) fun d86=>match d86 with
   | .inl d88=>
    some (.inr (.inl (s0,d88)))
   | .inr d89=>
    some (.inl (za .i64 (s0+1))))
  (some (.inr (.inr s0)))
def qme (a2:TB)(v1:TTE×Bool)(s0:Int):qc:=⟨[(2,sl 5 yg a2,false),(6,.ptr 0 0,false),(8,sl 1 (sl 3 vel) v1.1,v1.2),(9,Iv s0,false)],[.cells [(Iv 0,false),(.list true 0 [],false)]]⟩
def qoe (a2:TB)(v1:TTE×Bool):(Int×TE)⊕Int→qi×qc
 | .inl d=>(.ret,⟨[(6,.ptr 0 0,false),(7,.bool true,false)],[.cells [(Iv d.1,false),(sl 3 vel d.2,false)]]⟩)
 | .inr d=>(.exit 0,⟨[(2,sl 5 yg a2,false),(6,.ptr 0 0,false),(8,sl 1 (sl 3 vel) v1.1,v1.2),(9,Iv d,false),(17,.bool false,false)],[.cells [(Iv 0,false),(.list true 0 [],false)]]⟩)
theorem jpu (a2:TB)(v1:TTE×Bool)(s0:Int)(r)(h:qmy a2 v1 s0=some r):yh pr qui (qme a2 v1) (qoe a2 v1) s0 r:=by
 unfold qmy at h
 rcases j0 h with⟨h61,h⟩|⟨h61,h⟩
 ·obtain⟨d86,h87,h⟩:=jz h
  rcases d86 with d88|d89
  ·have wh87:=jfh a2 v1 s0 h87
   dsimp only[ql8,qn2,qc9]at wh87
   cases h
   exact j8 (by simp only[go_sem,seval,qui,qme,h61,wh87,qoe]<;>rfl)
  have wh87:=jfh a2 v1 s0 h87
  dsimp only[ql8,qn2,qc9]at wh87
  cases h
  exact zp (by simp only[go_sem,seval,qui,qme,h61,wh87]<;>rfl)
 cases h
 exact j8 (by simp only[go_sem,seval,qui,qme,h61,qoe]<;>rfl)
theorem jfb (a2:TB)(v1:TTE×Bool){s0:Int}{d}(h:itO (qmy a2 v1) s0=some d):X pr (.loop qui) (qme a2 v1 s0)=some (qoe a2 v1 d):=yo (jpu a2 v1) (fun d=>by rcases d with d|d<;>(intro hh;cases hh)) h
def f79 (a0:TP)(a1:TI)(a2:TB):Option (qq×Bool):=
 j5 (f112 a0 a1 false) fun v1=>
 j5 (itO (qmy a2 v1) 0) fun d90=>match d90 with
  | .inl d92=>
   some (⟨d92.1,d92.2⟩,true)
  | .inr d93=>
   some (⟨0,none⟩,false)
theorem W79 {a0:TP}{a1:TI}{a2:TB}{r}(h:f79 a0 a1 a2=some r):j7 pr (X pr) 79 [sl 8 zi a0,sl 1 zh a1,sl 5 yg a2]=some (.tup [.agg [Iv r.1.band,sl 3 vel r.1.ladder],.bool r.2],false):=by
 unfold f79 at h
 obtain⟨v1,h2,h⟩:=jz h
 obtain⟨d90,h91,h⟩:=jz h
 rcases d90 with d92|d93
 ·have wh91:=jfb a2 v1 h91
  dsimp only[qme,qoe,qc9]at wh91
  obtain rfl:=oi h
  refine zg c79 ?_
  simp only[go_sem,seval,c79,jkb h2,wh91]
  exact⟨_,rfl⟩
 have wh91:=jfb a2 v1 h91
 dsimp only[qme,qoe,qc9]at wh91
 obtain rfl:=oi h
 refine zg c79 ?_
 simp only[go_sem,seval,c79,jkb h2,wh91]
 exact⟨_,rfl⟩
def qj6 (a0:TP)(a1:TI)(a2:TB)(a3:qq)(s0:Int)(v69:TE×Bool)(s1:Bool×Int):Option ((Bool×Int)⊕((Bool×Int))):=
 cond (decide (s1.2<((v69.1.getD []).length:Int)))
  (cond s1.1
   (some (.inl (true,za .i64 (s1.2+1))))
   (j5 (yd (v69.1.getD []) s1.2) fun v84=>
   j5 (yd (a3.ladder.getD []) s0) fun v86=>
   some (.inl ((decide (v84.kind=v86.kind)&&decide (v84.a=v86.a)&&decide (v84.b=v86.b)),za .i64 (s1.2+1)))))
  (some (.inr (s1.1,s1.2)))
def qpj (a0:TP)(a1:TI)(a2:TB)(a3:qq)(s0:Int)(v69:TE×Bool)(s1:Bool×Int):qc:=⟨[(0,sl 8 zi a0,false),(1,sl 1 zh a1,false),(2,sl 5 yg a2,false),(7,.vptr (.agg [Iv a3.band,sl 3 vel a3.ladder]),false),(9,Iv s0,false),(10,.bool s1.1,false),(11,sl 3 vel v69.1,v69.2),(12,Iv s1.2,false)],[]⟩
def qya (a0:TP)(a1:TI)(a2:TB)(a3:qq)(s0:Int)(v69:TE×Bool)(d:(Bool×Int)):qi×qc:=(.exit 2,⟨[(0,sl 8 zi a0,false),(1,sl 1 zh a1,false),(2,sl 5 yg a2,false),(7,.vptr (.agg [Iv a3.band,sl 3 vel a3.ladder]),false),(9,Iv s0,false),(10,.bool d.1,false),(11,sl 3 vel v69.1,v69.2),(12,Iv d.2,false),(46,.bool false,false)],[]⟩)
theorem jpm (a0:TP)(a1:TI)(a2:TB)(a3:qq)(s0:Int)(v69:TE×Bool)(s1:Bool×Int)(r)(h:qj6 a0 a1 a2 a3 s0 v69 s1=some r):yh pr qtz (qpj a0 a1 a2 a3 s0 v69) (qya a0 a1 a2 a3 s0 v69) s1 r:=by
 unfold qj6 at h
 rcases j0 h with⟨h82,h⟩|⟨h82,h⟩
 ·rcases j0 h with⟨h83,h⟩|⟨h83,h⟩
  ·cases h
   exact zp (by simp only[go_sem,seval,qtz,qpj,h82,h83]<;>rfl)
  obtain⟨v84,h85,h⟩:=jz h
  obtain⟨v86,h87,h⟩:=jz h
  cases h
  exact zp (by simp only[go_sem,seval,qtz,qpj,h82,h83,zf h85,zf h87]<;>rfl)
 cases h
 exact j8 (by simp only[go_sem,seval,qtz,qpj,h82,qya]<;>rfl)
theorem jus (a0:TP)(a1:TI)(a2:TB)(a3:qq)(s0:Int)(v69:TE×Bool){s1:Bool×Int}{d}(h:itO (qj6 a0 a1 a2 a3 s0 v69) s1=some d):X pr (.loop qtz) (qpj a0 a1 a2 a3 s0 v69 s1)=some (qya a0 a1 a2 a3 s0 v69 d):=yo (jpm a0 a1 a2 a3 s0 v69) (fun d hh=>by cases hh) h
def qqn (a0:TP)(a1:TI)(a2:TB)(a3:qq)(s0:Int):Option (Int⊕(Unit⊕Int)):=
 cond (decide (s0<((a1.getD []).length:Int)))
  (j5 (yd (a1.getD []) s0) fun v65=>
  j5 (yd (a0.getD []) v65) fun v67=>
  j5 (f104 v67) fun v69=>
  j5 (itO (qj6 a0 a1 a2 a3 s0 v69) (false,0)) fun d88=>
  cond d88.1
   (some (.inl (za .i64 (s0+1))))
   (some (.inr (.inl ()))))
  (some (.inr (.inr s0)))
def qlb (a0:TP)(a1:TI)(a2:TB)(a3:qq)(s0:Int):qc:=⟨[(0,sl 8 zi a0,false),(1,sl 1 zh a1,false),(2,sl 5 yg a2,false),(7,.vptr (.agg [Iv a3.band,sl 3 vel a3.ladder]),false),(9,Iv s0,false)],[]⟩
def qo0 (a0:TP)(a1:TI)(a2:TB)(a3:qq):Unit⊕Int→qi×qc
 | .inl d=>(.ret,⟨[(8,Iv 1,false)],[]⟩)
 | .inr d=>(.exit 0,⟨[(0,sl 8 zi a0,false),(1,sl 1 zh a1,false),(2,sl 5 yg a2,false),(7,.vptr (.agg [Iv a3.band,sl 3 vel a3.ladder]),false),(9,Iv d,false),(32,.bool false,false)],[]⟩)
theorem ju9 (a0:TP)(a1:TI)(a2:TB)(a3:qq)(s0:Int)(r)(h:qqn a0 a1 a2 a3 s0=some r):yh pr qtj (qlb a0 a1 a2 a3) (qo0 a0 a1 a2 a3) s0 r:=by
 unfold qqn at h
 rcases j0 h with⟨h64,h⟩|⟨h64,h⟩
 ·obtain⟨v65,h66,h⟩:=jz h
  obtain⟨v67,h68,h⟩:=jz h
  obtain⟨v69,h70,h⟩:=jz h
  have wh70:=jdo h70
  obtain⟨d88,h89,h⟩:=jz h
  have wh89:=jus a0 a1 a2 a3 s0 v69 h89
  dsimp only[qpj,qya]at wh89
  rcases j0 h with⟨h90,h⟩|⟨h90,h⟩
  ·cases h
   exact zp (by simp only[go_sem,seval,qtj,qlb,h64,zf h66,zf h68,wh70,wh89,h90]<;>rfl)
  cases h
  exact j8 (by simp only[go_sem,seval,qtj,qlb,h64,zf h66,zf h68,wh70,wh89,h90,qo0]<;>rfl)
 cases h
 exact j8 (by simp only[go_sem,seval,qtj,qlb,h64,qo0]<;>rfl)
theorem jfi (a0:TP)(a1:TI)(a2:TB)(a3:qq){s0:Int}{d}(h:itO (qqn a0 a1 a2 a3) s0=some d):X pr (.loop qtj) (qlb a0 a1 a2 a3 s0)=some (qo0 a0 a1 a2 a3 d):=yo (ju9 a0 a1 a2 a3) (fun d=>by rcases d with d|d<;>(intro hh;cases hh)) h
def f80 (a0:TP)(a1:TI)(a2:TB)(a3:qq):Option Int:=
 cond (decide (a3.band<0))
  (some 10)
  (cond (decide (((a2.getD []).length:Int)≤a3.band))
   (some 10)
   (cond (decide (((a3.ladder.getD []).length:Int)=((a1.getD []).length:Int)))
    (j5 (itO (qqn a0 a1 a2 a3) 0) fun d91=>match d91 with
     | .inl d93=>
      some 1
     | .inr d94=>
      j5 (yd (a2.getD []) a3.band) fun v95=>
      j5 (f142 a3.ladder v95) fun v97=>
      j5 (f101 v97 22) fun v99=>
      some v99)
    (some 2)))
theorem W80 {a0:TP}{a1:TI}{a2:TB}{a3:qq}{r}(h:f80 a0 a1 a2 a3=some r):j7 pr (X pr) 80 [sl 8 zi a0,sl 1 zh a1,sl 5 yg a2,.agg [Iv a3.band,sl 3 vel a3.ladder]]=some (Iv r,false):=by
 unfold f80 at h
 rcases j0 h with⟨h1,h⟩|⟨h1,h⟩
 ·obtain rfl:=oi h
  refine zg c80 ?_
  simp only[go_sem,seval,c80,h1]
  exact⟨_,rfl⟩
 rcases j0 h with⟨h2,h⟩|⟨h2,h⟩
 ·obtain rfl:=oi h
  refine zg c80 ?_
  simp only[go_sem,seval,c80,h1,h2]
  exact⟨_,rfl⟩
 rcases j0 h with⟨h3,h⟩|⟨h3,h⟩
 ·obtain⟨d91,h92,h⟩:=jz h
  rcases d91 with d93|d94
  ·have wh92:=jfi a0 a1 a2 a3 h92
   dsimp only[qlb,qo0]at wh92
   obtain rfl:=oi h
   refine zg c80 ?_
   simp only[go_sem,seval,c80,h1,h2,h3,wh92]
   exact⟨_,rfl⟩
  have wh92:=jfi a0 a1 a2 a3 h92
  dsimp only[qlb,qo0]at wh92
  obtain⟨v95,h96,h⟩:=jz h
  obtain⟨v97,h98,h⟩:=jz h
  have wh98:=jj2 h98
  obtain⟨v99,h100,h⟩:=jz h
  obtain rfl:=oi h
  refine zg c80 ?_
  simp only[go_sem,seval,c80,h1,h2,h3,wh92,zf h96,wh98,jek h100]
  exact⟨_,rfl⟩
 obtain rfl:=oi h
 refine zg c80 ?_
 simp only[go_sem,seval,c80,h1,h2,h3]
 exact⟨_,rfl⟩
def qm8:qe:=pcB (pcR (pcR (pcB (pcL (pcR (pcR qcu))))))
def qin:qe:=rfA qm8
def qga:qe:=rfB qm8
theorem jdc:qm8=.rangeFunc (.tmp 22) [23] qin qga:=rfl
section
variable (ps:TP)(ch:TI)(bs:TB)(n i:Int)(b:qp)
def qd0:Env:=[(0,sl 8 zi ps,false),(1,sl 1 zh ch,false),(6,.ptr 0 0,false),(8,.ptr 1 0,false),(9,.ptr 2 0,false),(10,.ptr 3 0,false),(11,.ptr 4 0,false),(13,sl 5 yg bs,false),(14,Iv n,false),(15,Iv i,false),(22,.fn (.func 196) [] [.vptr (sl 1 zh ch),.vptr (sl 8 zi ps),.vptr (.bool false)],false)]
def qxq (x:TE):Env:=[(0,sl 8 zi ps,false),(1,sl 1 zh ch,false),(6,.ptr 0 0,false),(8,.ptr 1 0,false),(9,.ptr 2 0,false),(10,.ptr 3 0,false),(11,.ptr 4 0,false),(12,sl 3 vel x,false),(13,sl 5 yg bs,false),(14,Iv n,false),(15,Iv i,false),(23,sl 3 vel x,false)]
def c1s (i:Int)(x:TE):List (qa×Bool):=[(Iv i,false),(sl 3 vel x,false)]
def bcs (b:qp):List (qa×Bool):=[(Iv b.w,false),(Iv b.ln,false),(Iv b.ld,false),(Iv b.mn,false),(Iv b.md,false)]
def qd9 (pd:Option qi):qv:=.loop ⟨qd0 ps ch bs n i,[23],qin,qga,pd⟩
def qb3 (k:Int)(x:TE)(fd:Bool)(i:Int)(b:qp)(lp:qv)(T:zd):zd:=.cells (c1s 0 none)::.cells (c1s k x)::.cells [(.bool fd,false)]::.cells [(Iv i,false)]::.cells (bcs b)::lp::T
end
section
variable {ps:TP}{ch:TI}{bs:TB}{n i k:Int}{b:qp}{x:TE}{fd:Bool}{lp:qv}{T:zd}
theorem G1:(qb3 k x fd i b lp T)[1]?=some (.cells [(Iv k,false),(sl 3 vel x,false)]):=rfl
theorem G2:(qb3 k x fd i b lp T)[2]?=some (.cells [(.bool fd,false)]):=rfl
theorem G3:(qb3 k x fd i b lp T)[3]?=some (.cells [(Iv i,false)]):=rfl
theorem G4:(qb3 k x fd i b lp T)[4]?=some (.cells [(Iv b.w,false),(Iv b.ln,false),(Iv b.ld,false),(Iv b.mn,false),(Iv b.md,false)]):=rfl
theorem J1:decide (1<(qb3 k x fd i b lp T).length)=true:=rfl
theorem J2:decide (2<(qb3 k x fd i b lp T).length)=true:=rfl
theorem J3:decide (3<(qb3 k x fd i b lp T).length)=true:=rfl
theorem J4:decide (4<(qb3 k x fd i b lp T).length)=true:=rfl
theorem Y1 {k':Int}{x':TE}:(qb3 k x fd i b lp T).set 1 (.cells [(Iv k',false),(sl 3 vel x',false)])=qb3 k' x' fd i b lp T:=rfl
theorem Y2 {fd':Bool}:(qb3 k x fd i b lp T).set 2 (.cells [(.bool fd',false)])=qb3 k x fd' i b lp T:=rfl
theorem q9v {x':TE}(h:f164 b x'=some true):
  ∃en,X pr qga ⟨qxq ps ch bs n i x',qb3 k x fd i b lp T⟩=some (.normal,⟨en,qb3 k x fd i b lp T⟩):=by
 have g:=q75 h
 simp only[go_sem,seval,qga,rfB,qm8,pcB,pcL,pcR,qcu,qxq,g,G1,G2,G3,G4,J1,J2,J3,J4]
 exact⟨_,rfl⟩
theorem je6 {x':TE}(h:f164 b x'=some false):
  ∃en,X pr qga ⟨qxq ps ch bs n i x',qb3 k x fd i b lp T⟩=some (.exit 0,⟨en,qb3 i x' true i b lp T⟩):=by
 have g:=q75 h
 simp only[go_sem,seval,qga,rfB,qm8,pcB,pcL,pcR,qcu,qxq,g,G1,G2,G3,G4,J1,J2,J3,J4,Y1,Y2]
 exact⟨_,rfl⟩
end
def qvw (b:qp)(s:Unit)(x:TE):Option (Unit⊕TE):=j5 (f164 b x) fun k=>cond k (some (.inl ())) (some (.inr x))
section
variable (ps:TP)(ch:TI)(bs:TB)(n i:Int)(b:qp)
theorem q7m {m:Nat}(h:5≤m):qa9 m (qd0 ps ch bs n i)=true:=by
 have h1:Abs.below m (sl 1 zh ch)=true:=by simp only[go_sem,seval]
 have h2:Abs.below m (sl 8 zi ps)=true:=by simp only[go_sem,seval]
 have h5:Abs.below m (sl 5 yg bs)=true:=by simp only[go_sem,seval]
 have h3:∀b,b<5→Nat.blt b m=true:=fun b hb=>Nat.ble_eq_true_of_le (by omega)
 show(Abs.below m (sl 8 zi ps)&&(Abs.below m (sl 1 zh ch)&&(Nat.blt 0 m&&(Nat.blt 1 m&&(Nat.blt 2 m&&(Nat.blt 3 m&&(Nat.blt 4 m&&(Abs.below m (sl 5 yg bs)&&(true&&(true&&((true&&(Abs.below m (sl 1 zh ch)&&(Abs.below m (sl 8 zi ps)&&(true&&true))))&&true)))))))))))=true
 rw[h1,h2,h5,h3 0 (by omega),h3 1 (by omega),h3 2 (by omega),h3 3 (by omega),h3 4 (by omega)];rfl
theorem qyi {k:Int}{x:TE}{fd:Bool}{pd:Option qi}{m:Nat}(h:6≤m):yt m (qb3 k x fd i b (qd9 ps ch bs n i pd) [])=true:=by
 have h1:Abs.below m (sl 3 vel x)=true:=by simp only[go_sem,seval]
 have h2:Abs.below m (sl 3 vel none)=true:=by simp only[go_sem,seval]
 have he:=q7m ps ch bs n i (m:=m) (by omega)
 show((true&&(Abs.below m (sl 3 vel none)&&true))&&((true&&(Abs.below m (sl 3 vel x)&&true))&&((true&&true)&&((true&&true)&&((true&&(true&&(true&&(true&&(true&&true)))))&&(qa9 m (qd0 ps ch bs n i)&&true))))))=true
 rw[h1,h2,he];rfl
def qfq:Base Unit TE where
 R _:=qb3 0 none false i b (qd9 ps ch bs n i none) []
 RD x:=qb3 i x true i b (qd9 ps ch bs n i (some (.exit 0))) []
 n:=6
 b:=5
 ls _:=rfl
 ld _:=rfl
 bs k s h:=qyi ps ch bs n i b h
 bd k d h:=qyi ps ch bs n i b h
 hb:=by decide
 ch:=ch
 ps:=ps
 c:=false
theorem jh8:(qfq ps ch bs n i b).fam.yields (qvw b):=by
 intro s x els r h
 have eH:∀s,(qfq ps ch bs n i b).fam.HS s++els.map kw=qb3 0 none false i b (qd9 ps ch bs n i none) (qg7 (qfq ps ch bs n i b)::els.map kw):=fun _=>rfl
 have eD:∀d:TE,(qfq ps ch bs n i b).fam.HD d++els.map kw=qb3 i d true i b (qd9 ps ch bs n i (some (.exit 0))) (qg7 (qfq ps ch bs n i b)::els.map kw):=fun _=>rfl
 have hbel:∀r,yt (els.length+7) ((qfq ps ch bs n i b).fam.hr r++els.map kw)=true:=fun r=>(qfq ps ch bs n i b).fam.below (show 7≤els.length+7 by omega)
 generalize hT:qg7 (qfq ps ch bs n i b)::els.map kw=T at eH eD
 have hlT:T.length=els.length+1:=by rw[←hT,List.length_cons,List.length_map]
 show qbm (X pr) 5 [sl 3 vel x] _=_
 rw[eH]
 have g0:∀k z fd pd,qam (qb3 k z fd i b (qd9 ps ch bs n i pd) T) 5=some (.loop ⟨qd0 ps ch bs n i,[23],qin,qga,pd⟩):=fun _ _ _ _=>rfl
 have se:qfn (noOwn (qd0 ps ch bs n i)) [23] [sl 3 vel x]=some ((23,sl 3 vel x,false)::qd0 ps ch bs n i):=rfl
 have as_run:∀H,X pr qin ⟨(23,sl 3 vel x,false)::qd0 ps ch bs n i,H⟩=some (.normal,⟨qxq ps ch bs n i x,H⟩):=by
  intro H
  simp only[go_sem,seval,qin,rfA,qm8,pcB,pcL,pcR,qcu,qd0]<;>rfl
 have st0:∀k z fd pd pd',(qb3 k z fd i b (qd9 ps ch bs n i pd) T).set 5 (.loop ⟨qd0 ps ch bs n i,[23],qin,qga,pd'⟩)=qb3 k z fd i b (qd9 ps ch bs n i pd') T:=fun _ _ _ _ _=>rfl
 have hl:∀k z fd pd,(qb3 k z fd i b (qd9 ps ch bs n i pd) T).length=els.length+7:=fun _ _ _ _=>by show T.length+6=_;omega
 unfold qvw at h
 obtain⟨v,h1,h⟩:=jz h
 unfold qbm
 cases v with
 |true=>
  cases h
  obtain⟨en,hb⟩:=q9v (ps:=ps) (ch:=ch) (bs:=bs) (n:=n) (i:=i) (k:=0) (x:=none) (fd:=false) (lp:=qd9 ps ch bs n i (some .normal)) (T:=T) h1
  have ha:qag (els.length+7) (.bool true) (qb3 0 none false i b (qd9 ps ch bs n i none) T)=qb3 0 none false i b (qd9 ps ch bs n i none) T:=qve (hl _ _ _ _)
  simp only[g0,se,as_run,Option.isNone_none,cT,st0,hl,hb,ha]
  show _=some (qa.bool true,(qfq ps ch bs n i b).fam.HS ()++els.map kw)
  rw[eH]
 |false=>
  cases h
  obtain⟨en,hb⟩:=je6 (ps:=ps) (ch:=ch) (bs:=bs) (n:=n) (i:=i) (k:=0) (x:=none) (fd:=false) (lp:=qd9 ps ch bs n i (some .normal)) (T:=T) h1
  have ha:qag (els.length+7) (.bool true) (qb3 i x true i b (qd9 ps ch bs n i (some (.exit 0))) T)=qb3 i x true i b (qd9 ps ch bs n i (some (.exit 0))) T:=qve (hl _ _ _ _)
  simp only[g0,se,as_run,Option.isNone_none,cT,st0,hl,hb,ha]
  show _=some (qa.bool false,(qfq ps ch bs n i b).fam.HD x++els.map kw)
  rw[eD]
def H5 (k:Int)(x:TE)(fd:Bool)(i:Int)(b:qp):zd:=[.cells (c1s 0 none),.cells (c1s k x),.cells [(.bool fd,false)],.cells [(Iv i,false)],.cells (bcs b)]
theorem jd9 {r}(h:vis (qvw b) ch ps false (ch.getD []).length none ()=some r):X pr qm8 ⟨qd0 ps ch bs n i,H5 0 none false i b⟩=some (match r with
  | .inl _=>(.normal,⟨qd0 ps ch bs n i,H5 0 none false i b⟩)
  | .inr x=>(.exit 0,⟨qd0 ps ch bs n i,H5 i x true i b⟩)):=by
 have h1:=jjj (qfq ps ch bs n i b) (jh8 ps ch bs n i b) h
 rw[jdc,qzz]
 unfold qc6
 have hn:(qac qin&&qac qga)=true:=rfl
 have he:zc (qd0 ps ch bs n i) (.tmp 22)=some (.fn (.func 196) [] [.vptr (sl 1 zh ch),.vptr (sl 8 zi ps),.vptr (.bool false)]):=rfl
 have hb:∀k x fd,yt 5 (H5 k x fd i b)=true:=by
  intro k x fd
  have h1:Abs.below 5 (sl 3 vel x)=true:=by simp only[go_sem,seval]
  have h2:Abs.below 5 (sl 3 vel none)=true:=by simp only[go_sem,seval]
  show((true&&(Abs.below 5 (sl 3 vel none)&&true))&&((true&&(Abs.below 5 (sl 3 vel x)&&true))&&((true&&true)&&((true&&true)&&((true&&(true&&(true&&(true&&(true&&true)))))&&true)))))=true
  rw[h1,h2];rfl
 simp only[hn,cT,he,List.nil_append,List.cons_append]
 have hl:∀k x fd,(H5 k x fd i b).length=5:=fun _ _ _=>rfl
 have h1':yk pr (X pr) 196 [.fn (.yield (H5 0 none false i b).length) [] [],.vptr (sl 1 zh ch),.vptr (sl 8 zi ps),.vptr (.bool false)] (H5 0 none false i b++[.loop ⟨qd0 ps ch bs n i,[23],qin,qga,none⟩])=some (.tup [],false,(qfq ps ch bs n i b).fam.hr r):=h1
 rw[h1']
 cases r with
 |inl s'=>
  have hg:qam ((qfq ps ch bs n i b).fam.hr (.inl s')) 5=some (.loop ⟨qd0 ps ch bs n i,[23],qin,qga,none⟩):=rfl
  have ht:((qfq ps ch bs n i b).fam.hr (.inl s')).take 5=H5 0 none false i b:=rfl
  simp only[hl,hg,ht]
  rw[hb]
  rfl
 |inr x=>
  have hg:qam ((qfq ps ch bs n i b).fam.hr (.inr x)) 5=some (.loop ⟨qd0 ps ch bs n i,[23],qin,qga,some (.exit 0)⟩):=rfl
  have ht:((qfq ps ch bs n i b).fam.hr (.inr x)).take 5=H5 i x true i b:=rfl
  simp only[hl,hg,ht]
  rw[hb]
  rfl
end
def q4d:qe:=pcL qcu
def q27:qe:=pcL (pcR qcu)
def q2b:qe:=pcL (pcB (pcL (pcR (pcR qcu))))
def q3z:qe:=pcL (pcR (pcB (pcL (pcR (pcR qcu)))))
def q3q:qe:=pcR (pcR (pcR qcu))
theorem jbv:qcu=.seq q4d (.seq q27 (.seq (.block 1 (.seq q2b (.seq q3z (.block 2 qm8)))) q3q)):=rfl
def qjd (ps:TP)(ch:TI)(bs:TB)(i:Int):Option (Int⊕(Int⊕(Int×qp×TE))):=
 cond (decide (i<((bs.getD []).length:Int))) (j5 (yd (bs.getD []) i) fun b=>j5 (vis (qvw b) ch ps false (ch.getD []).length none ()) fun r=>match r with
  | .inl _=>some (.inl (za .i64 (i+1)))
  | .inr x=>some (.inr (.inr (i,b,x)))) (some (.inr (.inl i)))
section
variable (ps:TP)(ch:TI)(bs:TB)
def qke (i:Int):qc:=⟨[(0,sl 8 zi ps,false),(1,sl 1 zh ch,false),(6,.ptr 0 0,false),(8,.ptr 1 0,false),(9,.ptr 2 0,false),(13,sl 5 yg bs,false),(14,Lv bs,false),(15,Iv i,false)],[.cells (c1s 0 none),.cells (c1s 0 none),.cells [(.bool false,false)]]⟩
def qu6:Int ⊕ (Int×qp×TE)→qi×qc
 | .inl i=>(.exit 0,⟨[(0,sl 8 zi ps,false),(1,sl 1 zh ch,false),(6,.ptr 0 0,false),(8,.ptr 1 0,false),(9,.ptr 2 0,false),(13,sl 5 yg bs,false),(14,Lv bs,false),(15,Iv i,false),(16,.bool false,false)],[.cells (c1s 0 none),.cells (c1s 0 none),.cells [(.bool false,false)]]⟩)
 | .inr d=>(.exit 0,⟨qd0 ps ch bs ((bs.getD []).length:Int) d.1,H5 d.1 d.2.2 true d.1 d.2.1⟩)
theorem jky (i:Int)(r)(h:qjd ps ch bs i=some r):yh pr qcu (qke ps ch bs) (qu6 ps ch bs) i r:=by
 unfold qjd at h
 have g159:=jy3 (ps:=ps) (ch:=ch) (c:=false)
 rcases j0 h with⟨h1,k⟩|⟨h1,k⟩
 ·obtain⟨b,h2,k⟩:=jz k
  obtain⟨q,h3,k⟩:=jz k
  have hx:=jd9 ps ch bs ((bs.getD []).length:Int) i b h3
  simp only[qd0,H5,c1s,bcs]at hx
  rw[jbv]
  cases q with
  |inl s=>
   cases k
   dsimp only at hx
   refine qex (st':=⟨[(0,sl 8 zi ps,false),(1,sl 1 zh ch,false),(6,.ptr 0 0,false),(8,.ptr 1 0,false),(9,.ptr 2 0,false),(13,sl 5 yg bs,false),(14,Lv bs,false),(15,Iv (za .i64 (i+1)),false)],[.cells (c1s 0 none),.cells (c1s 0 none),.cells [(.bool false,false)]]++[.cells [(Iv i,false)],.cells (bcs b)]⟩) ?_ ?_
   ·simp only[go_sem,seval,q4d,q27,q2b,q3z,q3q,pcL,pcR,pcB,qcu,qke,c1s,bcs,h1,zf h2,g159,hx]<;>rfl
   ·exact qtn rfl rfl (by first|simp only[go_sem,seval,qke,c1s]|rfl) (by first|simp only[go_sem,seval,qke,c1s]|rfl)
  |inr x=>
   cases k
   dsimp only at hx
   refine j8 ?_
   simp only[go_sem,seval,q4d,q27,q2b,q3z,q3q,pcL,pcR,pcB,qcu,qke,c1s,bcs,h1,zf h2,g159,hx,qu6,qd0,H5]<;>rfl
 cases k
 exact j8 (by simp only[go_sem,seval,qcu,qke,h1,qu6]<;>rfl)
theorem jll {i:Int}{d}(h:itO (qjd ps ch bs) i=some d):X pr (.loop qcu) (qke ps ch bs i)=some (qu6 ps ch bs d):=yo (jky ps ch bs) (fun d=>by rcases d with d|d<;>(intro hh;cases hh)) h
end
def f117 (ps:TP)(ch:TI)(bs:TB):Option (qq×Bool):=
 j5 (itO (qjd ps ch bs) 0) fun d=>match d with
  | .inl _=>some (⟨0,none⟩,false)
  | .inr d=>some (⟨d.1,d.2.2⟩,true)
theorem j2d {ps:TP}{ch:TI}{bs:TB}{r}(h:f117 ps ch bs=some r):j7 pr (X pr) 117 [sl 8 zi ps,sl 1 zh ch,sl 5 yg bs]=some (.tup [.agg [Iv r.1.band,sl 3 vel r.1.ladder],.bool r.2],false):=by
 unfold f117 at h
 obtain⟨d,h1,h⟩:=jz h
 have hl:=jll ps ch bs h1
 have hnl:sl 3 vel (none:TE)=.list true 0 []:=rfl
 cases d with
 |inl i=>
  cases h
  simp only[qke,qu6,c1s,hnl]at hl
  refine zg c117 ?_
  simp only[go_sem,seval,c117,hl]
  exact⟨_,rfl⟩
 |inr d=>
  cases h
  simp only[qke,qu6,c1s,qd0,H5,bcs,hnl]at hl
  refine zg c117 ?_
  simp only[go_sem,seval,c117,hl]
  exact⟨_,rfl⟩
end Go.Z
end
