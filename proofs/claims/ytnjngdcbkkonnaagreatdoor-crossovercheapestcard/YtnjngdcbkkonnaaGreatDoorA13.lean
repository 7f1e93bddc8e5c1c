/- Chapter 4. -/
import Derived.Test.YtnjngdcbkkonnaaGreatDoorA8
set_option linter.unusedVariables false
set_option linter.unusedSimpArgs false
set_option maxRecDepth 100000
set_option maxHeartbeats 4000000
namespace Go.Z
open Go Go.Abs
noncomputable def f164 (a0:za) (a1:TE):Option Bool:=
 qc (f57 a1 a0.w) fun v1=>
 cond (decide (v1.2=0))
  (qc (f127 (⟨a0.ln,a0.ld⟩) v1.1) fun v4=>
  cond v4
   (some false)
   (qc (f127 v1.1 (⟨a0.mn,a0.md⟩)) fun v7=>
   some (!v7)))
  (some false)
theorem jhl {a0:za} {a1:TE} {r} (h:f164 a0 a1=some r):qf pr (X pr) 164 [.agg [.int .i64 a0.w,.int .i64 a0.ln,.int .i64 a0.ld,.int .i64 a0.mn,.int .i64 a0.md],sl 3 vel a1]=some (.bool r,false):=by
 unfold f164 at h
 obtain ⟨v1,h2,h⟩:=qa h
 have wh2:=W57 h2
 rcases qb h with ⟨h3,h⟩ | ⟨h3,h⟩
 ·obtain ⟨v4,h5,h⟩:=qa h
  have wh5:=q8x h5
  rcases qb h with ⟨h6,h⟩ | ⟨h6,h⟩
  ·obtain rfl:=Option.some.inj h
   refine qn (f:=c164) rfl rfl rfl (by first | rfl | simp only [go_sem,seval]) ?_
   simp only [go_sem,seval,c164,wh2,h3,wh5,h6]
   exact ⟨_,rfl⟩
  obtain ⟨v7,h8,h⟩:=qa h
  have wh8:=q8x h8
  obtain rfl:=Option.some.inj h
  refine qn (f:=c164) rfl rfl rfl (by first | rfl | simp only [go_sem,seval]) ?_
  simp only [go_sem,seval,c164,wh2,h3,wh5,h6,wh8]
  exact ⟨_,rfl⟩
 obtain rfl:=Option.some.inj h
 refine qn (f:=c164) rfl rfl rfl (by first | rfl | simp only [go_sem,seval]) ?_
 simp only [go_sem,seval,c164,wh2,h3]
 exact ⟨_,rfl⟩
noncomputable def f142 (a0:TE) (a1:za):Option Bool:=
 qc (f113 a0 a1.w) fun v1=>
 cond (decide (v1.2=0))
  (qc (f58 200 v1.1 (⟨a1.ln,a1.ld⟩)) fun v4=>
  cond v4
   (some false)
   (qc (f58 200 (⟨a1.mn,a1.md⟩) v1.1) fun v7=>
   some (!v7)))
  (some false)
theorem jvy {a0:TE} {a1:za} {r} (h:f142 a0 a1=some r):qf pr (X pr) 142 [sl 3 vel a0,.agg [.int .i64 a1.w,.int .i64 a1.ln,.int .i64 a1.ld,.int .i64 a1.mn,.int .i64 a1.md]]=some (.bool r,false):=by
 unfold f142 at h
 obtain ⟨v1,h2,h⟩:=qa h
 have wh2:=jvx h2
 rcases qb h with ⟨h3,h⟩ | ⟨h3,h⟩
 ·obtain ⟨v4,h5,h⟩:=qa h
  have wh5:=W58 200 h5
  rcases qb h with ⟨h6,h⟩ | ⟨h6,h⟩
  ·obtain rfl:=Option.some.inj h
   refine qn (f:=c142) rfl rfl rfl (by first | rfl | simp only [go_sem,seval]) ?_
   simp only [go_sem,seval,c142,wh2,h3,wh5,h6]
   exact ⟨_,rfl⟩
  obtain ⟨v7,h8,h⟩:=qa h
  have wh8:=W58 200 h8
  obtain rfl:=Option.some.inj h
  refine qn (f:=c142) rfl rfl rfl (by first | rfl | simp only [go_sem,seval]) ?_
  simp only [go_sem,seval,c142,wh2,h3,wh5,h6,wh8]
  exact ⟨_,rfl⟩
 obtain rfl:=Option.some.inj h
 refine qn (f:=c142) rfl rfl rfl (by first | rfl | simp only [go_sem,seval]) ?_
 simp only [go_sem,seval,c142,wh2,h3]
 exact ⟨_,rfl⟩
noncomputable def f143 (a0:qy):Option Int:=
 qc (f109 a0.num 0 1000) fun v1=>
 qc (f109 a0.den 1 1000) fun v3=>
 qc (f105 (some [v1,v3])) fun v5=>
 cond (decide (v5=0))
  (qc (f125 a0.num a0.den) fun v8=>
  qc (f106 (!(decide (a0.num=v8.num) && decide (a0.den=v8.den))) 1) fun v10=>
  some v10)
  (some v5)
theorem jje {a0:qy} {r} (h:f143 a0=some r):qf pr (X pr) 143 [.agg [.int .i64 a0.num,.int .i64 a0.den]]=some (.int .i64 r,false):=by
 unfold f143 at h
 obtain ⟨v1,h2,h⟩:=qa h
 have wh2:=qow h2
 obtain ⟨v3,h4,h⟩:=qa h
 have wh4:=qow h4
 obtain ⟨v5,h6,h⟩:=qa h
 have wh6:qf pr (X pr) 105 [.list false 1 [.int .i64 v1,.int .i64 v3]]=some (.int .i64 v5,false):=qs2 h6
 rcases qb h with ⟨h7,h⟩ | ⟨h7,h⟩
 ·obtain ⟨v8,h9,h⟩:=qa h
  have wh9:=jwn h9
  obtain ⟨v10,h11,h⟩:=qa h
  have wh11:=qpq h11
  obtain rfl:=Option.some.inj h
  refine qn (f:=c143) rfl rfl rfl (by first | rfl | simp only [go_sem,seval]) ?_
  simp only [go_sem,seval,c143,wh2,wh4,wh6,h7,wh9,wh11]
  exact ⟨_,rfl⟩
 obtain rfl:=Option.some.inj h
 refine qn (f:=c143) rfl rfl rfl (by first | rfl | simp only [go_sem,seval]) ?_
 simp only [go_sem,seval,c143,wh2,wh4,wh6,h7]
 exact ⟨_,rfl⟩
noncomputable def qkm (a0:TB) (s0:Int × Int):Option ((Int × Int) ⊕ ((Int × Int × Int × Int × Int × Int) ⊕ (Int × Int))):=
 cond (decide (s0.2 < ((a0.getD []).length:Int)))
  (qc (js (a0.getD []) s0.2) fun v41=>
  qc (f122 v41.w) fun v43=>
  qc (f143 (⟨v41.ln,v41.ld⟩)) fun v45=>
  qc (f143 (⟨v41.mn,v41.md⟩)) fun v47=>
  qc (f105 (some [v43,v45,v47])) fun v49=>
  cond (decide (v49=0))
   (qc (f127 (⟨v41.ln,v41.ld⟩) (⟨v41.mn,v41.md⟩)) fun v52=>
   cond v52
    (some (.inr (.inl (11,v41.w,v41.ln,v41.ld,v41.mn,v41.md))))
    (cond (decide (v41.w≤s0.1))
     (some (.inr (.inl (11,v41.w,v41.ln,v41.ld,v41.mn,v41.md))))
     (some (.inl (v41.w,qg .i64 (s0.2 + 1))))))
   (some (.inr (.inl (v49,v41.w,v41.ln,v41.ld,v41.mn,v41.md)))))
  (some (.inr (.inr (s0.1,s0.2))))
def qdg (a0:TB) (s0:Int × Int):ASt:=⟨[(4,.int .i64 s0.1,false),(21,sl 5 j5 a0,false),(22,.int .i64 ((a0.getD []).length:Int),false),(23,.int .i64 s0.2,false)],[]⟩
def qg9 (a0:TB):(Int × Int × Int × Int × Int × Int) ⊕ (Int × Int)→jb × ASt
 | .inl d=>(.ret,⟨[(2,.int .i64 d.1,false)],[.cells [(.int .i64 d.2.1,false),(.int .i64 d.2.2.1,false),(.int .i64 d.2.2.2.1,false),(.int .i64 d.2.2.2.2.1,false),(.int .i64 d.2.2.2.2.2,false)]]⟩)
 | .inr d=>(.exit 0,⟨[(4,.int .i64 d.1,false),(21,sl 5 j5 a0,false),(22,.int .i64 ((a0.getD []).length:Int),false),(23,.int .i64 d.2,false),(24,.bool false,false)],[]⟩)
theorem jrk (a0:TB) (s0:Int × Int) (r) (h:qkm a0 s0=some r):jt pr qkw (qdg a0) (qg9 a0) s0 r:=by
 unfold qkm at h
 rcases qb h with ⟨h40,h⟩ | ⟨h40,h⟩
 ·obtain ⟨v41,h42,h⟩:=qa h
  obtain ⟨v43,h44,h⟩:=qa h
  have wh44:=jxt h44
  obtain ⟨v45,h46,h⟩:=qa h
  have wh46:=jje h46
  obtain ⟨v47,h48,h⟩:=qa h
  have wh48:=jje h48
  obtain ⟨v49,h50,h⟩:=qa h
  have wh50:qf pr (X pr) 105 [.list false 1 [.int .i64 v43,.int .i64 v45,.int .i64 v47]]=some (.int .i64 v49,false):=qs2 h50
  rcases qb h with ⟨h51,h⟩ | ⟨h51,h⟩
  ·obtain ⟨v52,h53,h⟩:=qa h
   have wh53:=q8x h53
   rcases qb h with ⟨h54,h⟩ | ⟨h54,h⟩
   ·cases h
    exact qh (by simp only [go_sem,seval,qkw,qdg,h40,qu h42,wh44,wh46,wh48,wh50,h51,wh53,h54,qg9] <;> rfl)
   rcases qb h with ⟨h55,h⟩ | ⟨h55,h⟩
   ·cases h
    exact qh (by simp only [go_sem,seval,qkw,qdg,h40,qu h42,wh44,wh46,wh48,wh50,h51,wh53,h54,h55,qg9] <;> rfl)
   cases h
   exact zt (by simp only [go_sem,seval,qkw,qdg,h40,qu h42,wh44,wh46,wh48,wh50,h51,wh53,h54,h55]; exact ⟨_,rfl⟩) rfl (by first | simp only [go_sem,seval,qdg] | rfl) (by first | simp only [go_sem,seval,qdg] | rfl)
  cases h
  exact qh (by simp only [go_sem,seval,qkw,qdg,h40,qu h42,wh44,wh46,wh48,wh50,h51,qg9] <;> rfl)
 cases h
 exact qh (by simp only [go_sem,seval,qkw,qdg,h40,qg9] <;> rfl)
theorem jb1 (a0:TB) {s0:Int × Int} {d} (h:itO (qkm a0) s0=some d):X pr (.loop qkw) (qdg a0 s0)=some (qg9 a0 d):=j9 (jrk a0) (fun d=>by rcases d with d|d <;> (intro hh; cases hh)) h
noncomputable def f81 (a0:TB):Option Int:=
 qc (f106 (decide (((a0.getD []).length:Int)=0)) 12) fun v1=>
 qc (f106 (decide (8 < ((a0.getD []).length:Int))) 5) fun v3=>
 qc (f105 (some [v1,v3])) fun v5=>
 cond (decide (v5=0))
  (qc (itO (qkm a0) (0,0)) fun d56=>match d56 with
   | .inl d58=>
    some d58.1
   | .inr d59=>
    some 0)
  (some v5)
theorem W81 {a0:TB} {r} (h:f81 a0=some r):qf pr (X pr) 81 [sl 5 j5 a0]=some (.int .i64 r,false):=by
 unfold f81 at h
 obtain ⟨v1,h2,h⟩:=qa h
 have wh2:=qpq h2
 obtain ⟨v3,h4,h⟩:=qa h
 have wh4:=qpq h4
 obtain ⟨v5,h6,h⟩:=qa h
 have wh6:qf pr (X pr) 105 [.list false 1 [.int .i64 v1,.int .i64 v3]]=some (.int .i64 v5,false):=qs2 h6
 rcases qb h with ⟨h7,h⟩ | ⟨h7,h⟩
 ·obtain ⟨d56,h57,h⟩:=qa h
  rcases d56 with d58 | d59
  ·have wh57:=jb1 a0 h57
   dsimp only [qdg,qg9] at wh57
   obtain rfl:=Option.some.inj h
   refine qn (f:=c81) rfl rfl rfl (by first | rfl | simp only [go_sem,seval]) ?_
   simp only [go_sem,seval,c81,wh2,wh4,wh6,h7,wh57]
   exact ⟨_,rfl⟩
  have wh57:=jb1 a0 h57
  dsimp only [qdg,qg9] at wh57
  obtain rfl:=Option.some.inj h
  refine qn (f:=c81) rfl rfl rfl (by first | rfl | simp only [go_sem,seval]) ?_
  simp only [go_sem,seval,c81,wh2,wh4,wh6,h7,wh57]
  exact ⟨_,rfl⟩
 obtain rfl:=Option.some.inj h
 refine qn (f:=c81) rfl rfl rfl (by first | rfl | simp only [go_sem,seval]) ?_
 simp only [go_sem,seval,c81,wh2,wh4,wh6,h7]
 exact ⟨_,rfl⟩
noncomputable def f118 (a0:qy):Option Int:=
 qc (f40 a0.num 0 1000) fun v1=>
 qc (f40 a0.den 1 1000) fun v3=>
 qc (f100 (some [v1,v3])) fun v5=>
 cond (decide (v5=0))
  (qc (f66 a0.num a0.den) fun v8=>
  qc (f101 (!(decide (a0.num=v8.num) && decide (a0.den=v8.den))) 1) fun v10=>
  some v10)
  (some v5)
theorem jhq {a0:qy} {r} (h:f118 a0=some r):qf pr (X pr) 118 [.agg [.int .i64 a0.num,.int .i64 a0.den]]=some (.int .i64 r,false):=by
 unfold f118 at h
 obtain ⟨v1,h2,h⟩:=qa h
 have wh2:=W40 h2
 obtain ⟨v3,h4,h⟩:=qa h
 have wh4:=W40 h4
 obtain ⟨v5,h6,h⟩:=qa h
 have wh6:qf pr (X pr) 100 [.list false 1 [.int .i64 v1,.int .i64 v3]]=some (.int .i64 v5,false):=qza h6
 rcases qb h with ⟨h7,h⟩ | ⟨h7,h⟩
 ·obtain ⟨v8,h9,h⟩:=qa h
  have wh9:=W66 h9
  obtain ⟨v10,h11,h⟩:=qa h
  have wh11:=jjc h11
  obtain rfl:=Option.some.inj h
  refine qn (f:=c118) rfl rfl rfl (by first | rfl | simp only [go_sem,seval]) ?_
  simp only [go_sem,seval,c118,wh2,wh4,wh6,h7,wh9,wh11]
  exact ⟨_,rfl⟩
 obtain rfl:=Option.some.inj h
 refine qn (f:=c118) rfl rfl rfl (by first | rfl | simp only [go_sem,seval]) ?_
 simp only [go_sem,seval,c118,wh2,wh4,wh6,h7]
 exact ⟨_,rfl⟩
noncomputable def f119 (a0:qy) (a1:qy):Option Int:=
 cond (decide ((qg .i64 (a0.num * a1.den)) < (qg .i64 (a1.num * a0.den))))
  (some (-1))
  (cond (decide ((qg .i64 (a1.num * a0.den)) < (qg .i64 (a0.num * a1.den))))
   (some 1)
   (some 0))
theorem jvv {a0:qy} {a1:qy} {r} (h:f119 a0 a1=some r):qf pr (X pr) 119 [.agg [.int .i64 a0.num,.int .i64 a0.den],.agg [.int .i64 a1.num,.int .i64 a1.den]]=some (.int .i64 r,false):=by
 unfold f119 at h
 rcases qb h with ⟨h1,h⟩ | ⟨h1,h⟩
 ·obtain rfl:=Option.some.inj h
  refine qn (f:=c119) rfl rfl rfl (by first | rfl | simp only [go_sem,seval]) ?_
  simp only [go_sem,seval,c119,h1]
  exact ⟨_,rfl⟩
 rcases qb h with ⟨h2,h⟩ | ⟨h2,h⟩
 ·obtain rfl:=Option.some.inj h
  refine qn (f:=c119) rfl rfl rfl (by first | rfl | simp only [go_sem,seval]) ?_
  simp only [go_sem,seval,c119,h1,h2]
  exact ⟨_,rfl⟩
 obtain rfl:=Option.some.inj h
 refine qn (f:=c119) rfl rfl rfl (by first | rfl | simp only [go_sem,seval]) ?_
 simp only [go_sem,seval,c119,h1,h2]
 exact ⟨_,rfl⟩
noncomputable def qkj (a0:TB) (s0:Int):Option (Int ⊕ (Int ⊕ Int)):=
 cond (decide (s0 < ((a0.getD []).length:Int)))
  (qc (js (a0.getD []) s0) fun v38=>
  qc (f34 v38.w) fun v40=>
  qc (f118 (⟨v38.ln,v38.ld⟩)) fun v42=>
  qc (f118 (⟨v38.mn,v38.md⟩)) fun v44=>
  qc (f100 (some [v40,v42,v44])) fun v46=>
  cond (decide (v46=0))
   (qc (f119 (⟨v38.ln,v38.ld⟩) (⟨v38.mn,v38.md⟩)) fun v49=>
   cond (decide (0 < v49))
    (some (.inr (.inl 11)))
    (cond (decide (0 < s0))
     (qc (js (a0.getD []) (qg .i64 (s0 - 1))) fun v53=>
     cond (decide (v38.w≤v53.w))
      (some (.inr (.inl 11)))
      (some (.inl (qg .i64 (s0 + 1)))))
     (some (.inl (qg .i64 (s0 + 1))))))
   (some (.inr (.inl v46))))
  (some (.inr (.inr s0)))
def qd6 (a0:TB) (s0:Int):ASt:=⟨[(0,sl 5 j5 a0,false),(3,.int .i64 s0,false)],[]⟩
def qgx (a0:TB):Int ⊕ Int→jb × ASt
 | .inl d=>(.ret,⟨[(2,.int .i64 d,false)],[]⟩)
 | .inr d=>(.exit 0,⟨[(0,sl 5 j5 a0,false),(3,.int .i64 d,false),(14,.bool false,false)],[]⟩)
theorem jlj (a0:TB) (s0:Int) (r) (h:qkj a0 s0=some r):jt pr qhu (qd6 a0) (qgx a0) s0 r:=by
 unfold qkj at h
 rcases qb h with ⟨h37,h⟩ | ⟨h37,h⟩
 ·obtain ⟨v38,h39,h⟩:=qa h
  obtain ⟨v40,h41,h⟩:=qa h
  have wh41:=W34 h41
  obtain ⟨v42,h43,h⟩:=qa h
  have wh43:=jhq h43
  obtain ⟨v44,h45,h⟩:=qa h
  have wh45:=jhq h45
  obtain ⟨v46,h47,h⟩:=qa h
  have wh47:qf pr (X pr) 100 [.list false 1 [.int .i64 v40,.int .i64 v42,.int .i64 v44]]=some (.int .i64 v46,false):=qza h47
  rcases qb h with ⟨h48,h⟩ | ⟨h48,h⟩
  ·obtain ⟨v49,h50,h⟩:=qa h
   have wh50:=jvv h50
   rcases qb h with ⟨h51,h⟩ | ⟨h51,h⟩
   ·cases h
    exact qh (by simp only [go_sem,seval,qhu,qd6,h37,qu h39,wh41,wh43,wh45,wh47,h48,wh50,h51,qgx] <;> rfl)
   rcases qb h with ⟨h52,h⟩ | ⟨h52,h⟩
   ·obtain ⟨v53,h54,h⟩:=qa h
    rcases qb h with ⟨h55,h⟩ | ⟨h55,h⟩
    ·cases h
     exact qh (by simp only [go_sem,seval,qhu,qd6,h37,qu h39,wh41,wh43,wh45,wh47,h48,wh50,h51,h52,qu h54,h55,qgx] <;> rfl)
    cases h
    exact qw (by simp only [go_sem,seval,qhu,qd6,h37,qu h39,wh41,wh43,wh45,wh47,h48,wh50,h51,h52,qu h54,h55] <;> rfl) (Nat.le_refl _)
   cases h
   exact qw (by simp only [go_sem,seval,qhu,qd6,h37,qu h39,wh41,wh43,wh45,wh47,h48,wh50,h51,h52] <;> rfl) (Nat.le_refl _)
  cases h
  exact qh (by simp only [go_sem,seval,qhu,qd6,h37,qu h39,wh41,wh43,wh45,wh47,h48,qgx] <;> rfl)
 cases h
 exact qh (by simp only [go_sem,seval,qhu,qd6,h37,qgx] <;> rfl)
theorem jbq (a0:TB) {s0:Int} {d} (h:itO (qkj a0) s0=some d):X pr (.loop qhu) (qd6 a0 s0)=some (qgx a0 d):=j9 (jlj a0) (fun d=>by rcases d with d|d <;> (intro hh; cases hh)) h
noncomputable def f39 (a0:TB):Option Int:=
 cond (decide (((a0.getD []).length:Int)=0))
  (some 12)
  (cond (decide (8 < ((a0.getD []).length:Int)))
   (some 5)
   (qc (itO (qkj a0) 0) fun d56=>match d56 with
    | .inl d58=>
     some d58
    | .inr d59=>
     some 0))
theorem W39 {a0:TB} {r} (h:f39 a0=some r):qf pr (X pr) 39 [sl 5 j5 a0]=some (.int .i64 r,false):=by
 unfold f39 at h
 rcases qb h with ⟨h1,h⟩ | ⟨h1,h⟩
 ·obtain rfl:=Option.some.inj h
  refine qn (f:=c39) rfl rfl rfl (by first | rfl | simp only [go_sem,seval]) ?_
  simp only [go_sem,seval,c39,h1]
  exact ⟨_,rfl⟩
 rcases qb h with ⟨h2,h⟩ | ⟨h2,h⟩
 ·obtain rfl:=Option.some.inj h
  refine qn (f:=c39) rfl rfl rfl (by first | rfl | simp only [go_sem,seval]) ?_
  simp only [go_sem,seval,c39,h1,h2]
  exact ⟨_,rfl⟩
 obtain ⟨d56,h57,h⟩:=qa h
 rcases d56 with d58 | d59
 ·have wh57:=jbq a0 h57
  dsimp only [qd6,qgx] at wh57
  obtain rfl:=Option.some.inj h
  refine qn (f:=c39) rfl rfl rfl (by first | rfl | simp only [go_sem,seval]) ?_
  simp only [go_sem,seval,c39,h1,h2,wh57]
  exact ⟨_,rfl⟩
 have wh57:=jbq a0 h57
 dsimp only [qd6,qgx] at wh57
 obtain rfl:=Option.some.inj h
 refine qn (f:=c39) rfl rfl rfl (by first | rfl | simp only [go_sem,seval]) ?_
 simp only [go_sem,seval,c39,h1,h2,wh57]
 exact ⟨_,rfl⟩
noncomputable def qna (a0:TB) (s0:TB × Int × Bool):Option ((TB × Int × Bool) ⊕ ((TB × Bool × Int))):=
 cond (decide (s0.2.1 < ((a0.getD []).length:Int)))
  (qc (js (a0.getD []) s0.2.1) fun v14=>
  cond s0.2.2
   (qc (apO s0.1 [v14]) fun v17=>
   some (.inl (v17,qg .i64 (s0.2.1 + 1),true)))
   (cond s0.1.isNone
    (qc (apO s0.1 [v14]) fun v20=>
    some (.inl (v20,qg .i64 (s0.2.1 + 1),true)))
    (none)))
  (some (.inr (s0.1,s0.2.2,s0.2.1)))
def qd3 (a0:TB) (s0:TB × Int × Bool):ASt:=⟨[(3,sl 5 j5 s0.1,s0.2.2),(6,sl 5 j5 a0,false),(7,.int .i64 ((a0.getD []).length:Int),false),(8,.int .i64 s0.2.1,false)],[]⟩
def qtq (a0:TB) (d:(TB × Bool × Int)):jb × ASt:=(.exit 0,⟨[(3,sl 5 j5 d.1,d.2.1),(6,sl 5 j5 a0,false),(7,.int .i64 ((a0.getD []).length:Int),false),(8,.int .i64 d.2.2,false),(9,.bool false,false)],[]⟩)
theorem jq9 (a0:TB) (s0:TB × Int × Bool) (r) (h:qna a0 s0=some r):jt pr qrz (qd3 a0) (qtq a0) s0 r:=by
 unfold qna at h
 rcases qb h with ⟨h13,h⟩ | ⟨h13,h⟩
 ·obtain ⟨v14,h15,h⟩:=qa h
  rcases qb h with ⟨h16,h⟩ | ⟨h16,h⟩
  ·obtain ⟨v17,h18,h⟩:=qa h
   cases h
   exact zt (by simp only [go_sem,seval,qrz,qd3,h13,qu h15,h16,q14 h18]; exact ⟨_,rfl⟩) rfl (by first | simp only [go_sem,seval,qd3] | rfl) (by first | simp only [go_sem,seval,qd3] | rfl)
  rcases qb h with ⟨h19,h⟩ | ⟨h19,h⟩
  ·obtain ⟨v20,h21,h⟩:=qa h
   cases h
   exact zt (by simp only [go_sem,seval,qrz,qd3,h13,qu h15,h16,h19,q11 h21 h19]; exact ⟨_,rfl⟩) rfl (by first | simp only [go_sem,seval,qd3] | rfl) (by first | simp only [go_sem,seval,qd3] | rfl)
  cases h
 cases h
 exact qh (by simp only [go_sem,seval,qrz,qd3,h13,qtq] <;> rfl)
theorem jlw (a0:TB) {s0:TB × Int × Bool} {d} (h:itO (qna a0) s0=some d):X pr (.loop qrz) (qd3 a0 s0)=some (qtq a0 d):=j9 (jq9 a0) (fun d hh=>by cases hh) h
noncomputable def f38 (a0:TB):Option (TB × Bool):=
 qc (itO (qna a0) (none,0,false)) fun d22=>
 some (d22.1,d22.2.1)
theorem W38 {a0:TB} {r} (h:f38 a0=some r):qf pr (X pr) 38 [sl 5 j5 a0]=some (sl 5 j5 r.1,r.2):=by
 unfold f38 at h
 obtain ⟨d22,h23,h⟩:=qa h
 have wh23:=jlw a0 h23
 dsimp only [qd3,qtq,qdx] at wh23
 have hr:(d22.1,d22.2.1)=r:=Option.some.inj h
 subst hr
 have this:∃ hh,jg pr (X pr) 38 [sl 5 j5 a0] []=some (sl 5 j5 d22.1,d22.2.1,hh):=by
  rw [j8 (show pr.fns 38=some c38 from rfl) (by simp)]
  simp only [go_sem,seval,c38,wh23]
  exact ⟨_,rfl⟩
 obtain ⟨hh,this⟩:=this
 exact zk rfl this (by first | rfl | simp only [go_sem,seval]) (by first | rfl | simp only [go_sem,seval]) (by first | rfl | simp only [go_sem,seval])
noncomputable def qkq (a2:TB) (v1:TTE × Bool) (s0:Int) (s1:Int):Option (Int ⊕ (TE ⊕ Int)):=
 cond (decide (s1 < ((v1.1.getD []).length:Int)))
  (qc (js (v1.1.getD []) s1) fun v79=>
  qc (js (a2.getD []) s0) fun v81=>
  qc (f142 v79 v81) fun v83=>
  cond v83
   (some (.inl (qg .i64 (s1 + 1))))
   (some (.inr (.inl v79))))
  (some (.inr (.inr s1)))
def qi2 (a2:TB) (v1:TTE × Bool) (s0:Int) (s1:Int):ASt:=⟨[(2,sl 5 j5 a2,false),(6,.ptr 0 0,false),(8,sl 1 (sl 3 vel) v1.1,v1.2),(9,.int .i64 s0,false),(10,.int .i64 s1,false)],[.cells [(.int .i64 0,false),(.list true 0 [],false)]]⟩
def qlx (a2:TB) (v1:TTE × Bool) (s0:Int):TE ⊕ Int→jb × ASt
 | .inl d=>(.ret,⟨[(6,.ptr 0 0,false),(7,.bool true,false)],[.cells [(.int .i64 s0,false),(sl 3 vel d,false)]]⟩)
 | .inr d=>(.exit 2,⟨[(2,sl 5 j5 a2,false),(6,.ptr 0 0,false),(8,sl 1 (sl 3 vel) v1.1,v1.2),(9,.int .i64 s0,false),(10,.int .i64 d,false),(23,.bool false,false)],[.cells [(.int .i64 0,false),(.list true 0 [],false)]]⟩)
theorem jqg (a2:TB) (v1:TTE × Bool) (s0:Int) (s1:Int) (r) (h:qkq a2 v1 s0 s1=some r):jt pr qrq (qi2 a2 v1 s0) (qlx a2 v1 s0) s1 r:=by
 unfold qkq at h
 rcases qb h with ⟨h78,h⟩ | ⟨h78,h⟩
 ·obtain ⟨v79,h80,h⟩:=qa h
  obtain ⟨v81,h82,h⟩:=qa h
  obtain ⟨v83,h84,h⟩:=qa h
  have wh84:=jvy h84
  rcases qb h with ⟨h85,h⟩ | ⟨h85,h⟩
  ·cases h
   exact qw (by simp only [go_sem,seval,qrq,qi2,h78,qu h80,qu h82,wh84,h85] <;> rfl) (Nat.le_refl _)
  cases h
  exact qh (by simp only [go_sem,seval,qrq,qi2,h78,qu h80,qu h82,wh84,h85,qlx] <;> rfl)
 cases h
 exact qh (by simp only [go_sem,seval,qrq,qi2,h78,qlx] <;> rfl)
theorem jbr (a2:TB) (v1:TTE × Bool) (s0:Int) {s1:Int} {d} (h:itO (qkq a2 v1 s0) s1=some d):X pr (.loop qrq) (qi2 a2 v1 s0 s1)=some (qlx a2 v1 s0 d):=j9 (jqg a2 v1 s0) (fun d=>by rcases d with d|d <;> (intro hh; cases hh)) h
noncomputable def qkl (a2:TB) (v1:TTE × Bool) (s0:Int):Option (Int ⊕ ((Int × TE) ⊕ Int)):=
 cond (decide (s0 < ((a2.getD []).length:Int)))
  (qc (itO (qkq a2 v1 s0) 0) fun d86=>match d86 with
   | .inl d88=>
    some (.inr (.inl (s0,d88)))
   | .inr d89=>
    some (.inl (qg .i64 (s0 + 1))))
  (some (.inr (.inr s0)))
def qiz (a2:TB) (v1:TTE × Bool) (s0:Int):ASt:=⟨[(2,sl 5 j5 a2,false),(6,.ptr 0 0,false),(8,sl 1 (sl 3 vel) v1.1,v1.2),(9,.int .i64 s0,false)],[.cells [(.int .i64 0,false),(.list true 0 [],false)]]⟩
def qma (a2:TB) (v1:TTE × Bool):(Int × TE) ⊕ Int→jb × ASt
 | .inl d=>(.ret,⟨[(6,.ptr 0 0,false),(7,.bool true,false)],[.cells [(.int .i64 d.1,false),(sl 3 vel d.2,false)]]⟩)
 | .inr d=>(.exit 0,⟨[(2,sl 5 j5 a2,false),(6,.ptr 0 0,false),(8,sl 1 (sl 3 vel) v1.1,v1.2),(9,.int .i64 d,false),(17,.bool false,false)],[.cells [(.int .i64 0,false),(.list true 0 [],false)]]⟩)
theorem jo3 (a2:TB) (v1:TTE × Bool) (s0:Int) (r) (h:qkl a2 v1 s0=some r):jt pr qrh (qiz a2 v1) (qma a2 v1) s0 r:=by
 unfold qkl at h
 rcases qb h with ⟨h61,h⟩ | ⟨h61,h⟩
 ·obtain ⟨d86,h87,h⟩:=qa h
  rcases d86 with d88 | d89
  ·have wh87:=jbr a2 v1 s0 h87
   dsimp only [qi2,qlx,qdx] at wh87
   cases h
   exact qh (by simp only [go_sem,seval,qrh,qiz,h61,wh87,qma] <;> rfl)
  have wh87:=jbr a2 v1 s0 h87
  dsimp only [qi2,qlx,qdx] at wh87
  cases h
  exact qw (by simp only [go_sem,seval,qrh,qiz,h61,wh87] <;> rfl) (Nat.le_refl _)
 cases h
 exact qh (by simp only [go_sem,seval,qrh,qiz,h61,qma] <;> rfl)
theorem jb2 (a2:TB) (v1:TTE × Bool) {s0:Int} {d} (h:itO (qkl a2 v1) s0=some d):X pr (.loop qrh) (qiz a2 v1 s0)=some (qma a2 v1 d):=j9 (jo3 a2 v1) (fun d=>by rcases d with d|d <;> (intro hh; cases hh)) h
noncomputable def f79 (a0:TP) (a1:TI) (a2:TB):Option (qgu × Bool):=
 qc (f112 a0 a1 false) fun v1=>
 qc (itO (qkl a2 v1) 0) fun d90=>match d90 with
  | .inl d92=>
   some (⟨d92.1,d92.2⟩,true)
  | .inr d93=>
   some (⟨0,none⟩,false)
theorem W79 {a0:TP} {a1:TI} {a2:TB} {r} (h:f79 a0 a1 a2=some r):qf pr (X pr) 79 [sl 8 qq a0,sl 1 qm a1,sl 5 j5 a2]=some (.tup [.agg [.int .i64 r.1.band,sl 3 vel r.1.ladder],.bool r.2],false):=by
 unfold f79 at h
 obtain ⟨v1,h2,h⟩:=qa h
 obtain ⟨d90,h91,h⟩:=qa h
 rcases d90 with d92 | d93
 ·have wh91:=jb2 a2 v1 h91
  dsimp only [qiz,qma,qdx] at wh91
  obtain rfl:=Option.some.inj h
  refine qn (f:=c79) rfl rfl rfl (by first | rfl | simp only [go_sem,seval]) ?_
  simp only [go_sem,seval,c79,jfp h2,wh91]
  exact ⟨_,rfl⟩
 have wh91:=jb2 a2 v1 h91
 dsimp only [qiz,qma,qdx] at wh91
 obtain rfl:=Option.some.inj h
 refine qn (f:=c79) rfl rfl rfl (by first | rfl | simp only [go_sem,seval]) ?_
 simp only [go_sem,seval,c79,jfp h2,wh91]
 exact ⟨_,rfl⟩
def qkh:ACode:=pcB (pcR (pcR (pcB (pcL (pcR (pcR qa9))))))
def qgk:ACode:=rfA qkh
def qed:ACode:=rfB qkh
theorem jab:qkh=.rangeFunc (.tmp 22) [23] qgk qed:=rfl
section
variable (ps:TP) (ch:TI) (bs:TB) (n i:Int) (b:za)
def qcb:Env:=[(0,sl 8 qq ps,false),(1,sl 1 qm ch,false),(6,.ptr 0 0,false),(8,.ptr 1 0,false),(9,.ptr 2 0,false),(10,.ptr 3 0,false),(11,.ptr 4 0,false),(13,sl 5 j5 bs,false),(14,.int .i64 n,false),(15,.int .i64 i,false),(22,.fn (.func 196) [] [.vptr (sl 1 qm ch),.vptr (sl 8 qq ps),.vptr (.bool false)],false)]
def qud (x:TE):Env:=[(0,sl 8 qq ps,false),(1,sl 1 qm ch,false),(6,.ptr 0 0,false),(8,.ptr 1 0,false),(9,.ptr 2 0,false),(10,.ptr 3 0,false),(11,.ptr 4 0,false),(12,sl 3 vel x,false),(13,sl 5 j5 bs,false),(14,.int .i64 n,false),(15,.int .i64 i,false),(23,sl 3 vel x,false)]
def c1s (i:Int) (x:TE):List (AVal × Bool):=[(.int .i64 i,false),(sl 3 vel x,false)]
def bcs (b:za):List (AVal × Bool):=[(.int .i64 b.w,false),(.int .i64 b.ln,false),(.int .i64 b.ld,false),(.int .i64 b.mn,false),(.int .i64 b.md,false)]
def qcj (pd:Option jb):ABox:=.loop ⟨qcb ps ch bs n i,[23],qgk,qed,pd⟩
def qag (k:Int) (x:TE) (fd:Bool) (i:Int) (b:za) (lp:ABox) (T:qk):qk:=.cells (c1s 0 none)::.cells (c1s k x)::.cells [(.bool fd,false)]::.cells [(.int .i64 i,false)]::.cells (bcs b)::lp::T
end
section
variable {ps:TP} {ch:TI} {bs:TB} {n i k:Int} {b:za} {x:TE} {fd:Bool} {lp:ABox} {T:qk}
theorem G1:(qag k x fd i b lp T)[1]?=some (.cells [(.int .i64 k,false),(sl 3 vel x,false)]):=rfl
theorem G2:(qag k x fd i b lp T)[2]?=some (.cells [(.bool fd,false)]):=rfl
theorem G3:(qag k x fd i b lp T)[3]?=some (.cells [(.int .i64 i,false)]):=rfl
theorem G4:(qag k x fd i b lp T)[4]?=some (.cells [(.int .i64 b.w,false),(.int .i64 b.ln,false),(.int .i64 b.ld,false),(.int .i64 b.mn,false),(.int .i64 b.md,false)]):=rfl
theorem J1:decide (1 < (qag k x fd i b lp T).length)=true:=rfl
theorem J2:decide (2 < (qag k x fd i b lp T).length)=true:=rfl
theorem J3:decide (3 < (qag k x fd i b lp T).length)=true:=rfl
theorem J4:decide (4 < (qag k x fd i b lp T).length)=true:=rfl
theorem Y1 {k':Int} {x':TE}:(qag k x fd i b lp T).set 1 (.cells [(.int .i64 k',false),(sl 3 vel x',false)])=qag k' x' fd i b lp T:=rfl
theorem Y2 {fd':Bool}:(qag k x fd i b lp T).set 2 (.cells [(.bool fd',false)])=qag k x fd' i b lp T:=rfl
theorem q8c {x':TE} (h:f164 b x'=some true):
  ∃ en,X pr qed ⟨qud ps ch bs n i x',qag k x fd i b lp T⟩=some (.normal,⟨en,qag k x fd i b lp T⟩):=by
 have g:=jhl h
 simp only [go_sem,seval,qed,rfB,qkh,pcB,pcL,pcR,qa9,qud,g,G1,G2,G3,G4,J1,J2,J3,J4]
 exact ⟨_,rfl⟩
theorem q8t {x':TE} (h:f164 b x'=some false):
  ∃ en,X pr qed ⟨qud ps ch bs n i x',qag k x fd i b lp T⟩=some (.exit 0,⟨en,qag i x' true i b lp T⟩):=by
 have g:=jhl h
 simp only [go_sem,seval,qed,rfB,qkh,pcB,pcL,pcR,qa9,qud,g,G1,G2,G3,G4,J1,J2,J3,J4,Y1,Y2]
 exact ⟨_,rfl⟩
end
noncomputable def qs8 (b:za) (s:Unit) (x:TE):Option (Unit ⊕ TE):=qc (f164 b x) fun k=>cond k (some (.inl ())) (some (.inr x))
section
variable (ps:TP) (ch:TI) (bs:TB) (n i:Int) (b:za)
theorem q5l {m:Nat} (h:5≤m):yy m (qcb ps ch bs n i)=true:=by
 have h1:Abs.below m (sl 1 qm ch)=true:=by simp only [go_sem,seval]
 have h2:Abs.below m (sl 8 qq ps)=true:=by simp only [go_sem,seval]
 have h5:Abs.below m (sl 5 j5 bs)=true:=by simp only [go_sem,seval]
 have h3:∀ b,b < 5→Nat.blt b m=true:=fun b hb=>Nat.ble_eq_true_of_le (by omega)
 show (Abs.below m (sl 8 qq ps) && (Abs.below m (sl 1 qm ch) && (Nat.blt 0 m && (Nat.blt 1 m && (Nat.blt 2 m && (Nat.blt 3 m && (Nat.blt 4 m && (Abs.below m (sl 5 j5 bs) && (true && (true && ((true && (Abs.below m (sl 1 qm ch) && (Abs.below m (sl 8 qq ps) && (true && true)))) && true)))))))))))=true
 rw [h1,h2,h5,h3 0 (by omega),h3 1 (by omega),h3 2 (by omega),h3 3 (by omega),h3 4 (by omega)]; rfl
theorem quw {k:Int} {x:TE} {fd:Bool} {pd:Option jb} {m:Nat} (h:6≤m):ju m (qag k x fd i b (qcj ps ch bs n i pd) [])=true:=by
 have h1:Abs.below m (sl 3 vel x)=true:=by simp only [go_sem,seval]
 have h2:Abs.below m (sl 3 vel none)=true:=by simp only [go_sem,seval]
 have he:=q5l ps ch bs n i (m:=m) (by omega)
 show ((true && (Abs.below m (sl 3 vel none) && true)) && ((true && (Abs.below m (sl 3 vel x) && true)) && ((true && true) && ((true && true) && ((true && (true && (true && (true && (true && true))))) && (yy m (qcb ps ch bs n i) && true))))))=true
 rw [h1,h2,he]; rfl
def qdy:Base Unit TE where
 R _:=qag 0 none false i b (qcj ps ch bs n i none) []
 RD x:=qag i x true i b (qcj ps ch bs n i (some (.exit 0))) []
 n:=6
 b:=5
 ls _:=rfl
 ld _:=rfl
 bs k s h:=quw ps ch bs n i b h
 bd k d h:=quw ps ch bs n i b h
 hb:=by decide
 ch:=ch
 ps:=ps
 c:=false
theorem jdu:(qdy ps ch bs n i b).fam.yields (qs8 b):=by
 intro s x els r h
 have eH:∀ s,(qdy ps ch bs n i b).fam.HS s++els.map zf=qag 0 none false i b (qcj ps ch bs n i none) (qfb (qdy ps ch bs n i b)::els.map zf):=fun _=>rfl
 have eD:∀ d:TE,(qdy ps ch bs n i b).fam.HD d++els.map zf=qag i d true i b (qcj ps ch bs n i (some (.exit 0))) (qfb (qdy ps ch bs n i b)::els.map zf):=fun _=>rfl
 have hbel:∀ r,ju (els.length + 7) ((qdy ps ch bs n i b).fam.hr r++els.map zf)=true:=fun r=>(qdy ps ch bs n i b).fam.below (show 7≤els.length + 7 by omega)
 generalize hT:qfb (qdy ps ch bs n i b)::els.map zf=T at eH eD
 have hlT:T.length=els.length + 1:=by rw [← hT,List.length_cons,List.length_map]
 show kr (X pr) 5 [sl 3 vel x] _=_
 rw [eH]
 have g0:∀ k z fd pd,yd (qag k z fd i b (qcj ps ch bs n i pd) T) 5=some (.loop ⟨qcb ps ch bs n i,[23],qgk,qed,pd⟩):=fun _ _ _ _=>rfl
 have se:qdv (noOwn (qcb ps ch bs n i)) [23] [sl 3 vel x]=some ((23,sl 3 vel x,false)::qcb ps ch bs n i):=rfl
 have as_run:∀ H,X pr qgk ⟨(23,sl 3 vel x,false)::qcb ps ch bs n i,H⟩=some (.normal,⟨qud ps ch bs n i x,H⟩):=by
  intro H
  simp only [go_sem,seval,qgk,rfA,qkh,pcB,pcL,pcR,qa9,qcb] <;> rfl
 have st0:∀ k z fd pd pd',(qag k z fd i b (qcj ps ch bs n i pd) T).set 5 (.loop ⟨qcb ps ch bs n i,[23],qgk,qed,pd'⟩)=qag k z fd i b (qcj ps ch bs n i pd') T:=fun _ _ _ _ _=>rfl
 have hl:∀ k z fd pd,(qag k z fd i b (qcj ps ch bs n i pd) T).length=els.length + 7:=fun _ _ _ _=>by show T.length + 6=_; omega
 unfold qs8 at h
 obtain ⟨v,h1,h⟩:=qa h
 unfold kr
 cases v with
 | true=>
  cases h
  obtain ⟨en,hb⟩:=q8c (ps:=ps) (ch:=ch) (bs:=bs) (n:=n) (i:=i) (k:=0) (x:=none) (fd:=false) (lp:=qcj ps ch bs n i (some .normal)) (T:=T) h1
  have ha:z6 (els.length + 7) (.bool true) (qag 0 none false i b (qcj ps ch bs n i none) T)=qag 0 none false i b (qcj ps ch bs n i none) T:=qr8 (hl _ _ _ _)
  simp only [g0,se,as_run,Option.isNone_none,cond_true,st0,hl,hb,ha]
  show _=some (AVal.bool true,(qdy ps ch bs n i b).fam.HS ()++els.map zf)
  rw [eH]
 | false=>
  cases h
  obtain ⟨en,hb⟩:=q8t (ps:=ps) (ch:=ch) (bs:=bs) (n:=n) (i:=i) (k:=0) (x:=none) (fd:=false) (lp:=qcj ps ch bs n i (some .normal)) (T:=T) h1
  have ha:z6 (els.length + 7) (.bool true) (qag i x true i b (qcj ps ch bs n i (some (.exit 0))) T)=qag i x true i b (qcj ps ch bs n i (some (.exit 0))) T:=qr8 (hl _ _ _ _)
  simp only [g0,se,as_run,Option.isNone_none,cond_true,st0,hl,hb,ha]
  show _=some (AVal.bool false,(qdy ps ch bs n i b).fam.HD x++els.map zf)
  rw [eD]
def H5 (k:Int) (x:TE) (fd:Bool) (i:Int) (b:za):qk:=[.cells (c1s 0 none),.cells (c1s k x),.cells [(.bool fd,false)],.cells [(.int .i64 i,false)],.cells (bcs b)]
theorem jao {r} (h:vis (qs8 b) ch ps false (ch.getD []).length none ()=some r):X pr qkh ⟨qcb ps ch bs n i,H5 0 none false i b⟩=some (match r with
  | .inl _=>(.normal,⟨qcb ps ch bs n i,H5 0 none false i b⟩)
  | .inr x=>(.exit 0,⟨qcb ps ch bs n i,H5 i x true i b⟩)):=by
 have h1:=jha (qdy ps ch bs n i b) (jdu ps ch bs n i b) h
 rw [jab,qv3]
 unfold qbe
 have hn:(zq qgk && zq qed)=true:=rfl
 have he:qj (qcb ps ch bs n i) (.tmp 22)=some (.fn (.func 196) [] [.vptr (sl 1 qm ch),.vptr (sl 8 qq ps),.vptr (.bool false)]):=rfl
 have hb:∀ k x fd,ju 5 (H5 k x fd i b)=true:=by
  intro k x fd
  have h1:Abs.below 5 (sl 3 vel x)=true:=by simp only [go_sem,seval]
  have h2:Abs.below 5 (sl 3 vel none)=true:=by simp only [go_sem,seval]
  show ((true && (Abs.below 5 (sl 3 vel none) && true)) && ((true && (Abs.below 5 (sl 3 vel x) && true)) && ((true && true) && ((true && true) && ((true && (true && (true && (true && (true && true))))) && true)))))=true
  rw [h1,h2]; rfl
 simp only [hn,cond_true,he,List.nil_append,List.cons_append]
 have hl:∀ k x fd,(H5 k x fd i b).length=5:=fun _ _ _=>rfl
 have h1':jg pr (X pr) 196 [.fn (.yield (H5 0 none false i b).length) [] [],.vptr (sl 1 qm ch),.vptr (sl 8 qq ps),.vptr (.bool false)] (H5 0 none false i b++[.loop ⟨qcb ps ch bs n i,[23],qgk,qed,none⟩])=some (.tup [],false,(qdy ps ch bs n i b).fam.hr r):=h1
 rw [h1']
 cases r with
 | inl s'=>
  have hg:yd ((qdy ps ch bs n i b).fam.hr (.inl s')) 5=some (.loop ⟨qcb ps ch bs n i,[23],qgk,qed,none⟩):=rfl
  have ht:((qdy ps ch bs n i b).fam.hr (.inl s')).take 5=H5 0 none false i b:=rfl
  simp only [hl,hg,ht]
  rw [hb]
  rfl
 | inr x=>
  have hg:yd ((qdy ps ch bs n i b).fam.hr (.inr x)) 5=some (.loop ⟨qcb ps ch bs n i,[23],qgk,qed,some (.exit 0)⟩):=rfl
  have ht:((qdy ps ch bs n i b).fam.hr (.inr x)).take 5=H5 i x true i b:=rfl
  simp only [hl,hg,ht]
  rw [hb]
  rfl
end
def qyg:ACode:=pcL qa9
def qzy:ACode:=pcL (pcR qa9)
def qz6:ACode:=pcL (pcB (pcL (pcR (pcR qa9))))
def q0c:ACode:=pcL (pcR (pcB (pcL (pcR (pcR qa9)))))
def qyz:ACode:=pcR (pcR (pcR qa9))
theorem q7p:qa9=.seq qyg (.seq qzy (.seq (.block 1 (.seq qz6 (.seq q0c (.block 2 qkh)))) qyz)):=rfl
noncomputable def qg1 (ps:TP) (ch:TI) (bs:TB) (i:Int):Option (Int ⊕ (Int ⊕ (Int × za × TE))):=
 cond (decide (i < ((bs.getD []).length:Int))) (qc (js (bs.getD []) i) fun b=>qc (vis (qs8 b) ch ps false (ch.getD []).length none ()) fun r=>match r with
  | .inl _=>some (.inl (qg .i64 (i + 1)))
  | .inr x=>some (.inr (.inr (i,b,x)))) (some (.inr (.inl i)))
section
variable (ps:TP) (ch:TI) (bs:TB)
def qh7 (i:Int):ASt:=⟨[(0,sl 8 qq ps,false),(1,sl 1 qm ch,false),(6,.ptr 0 0,false),(8,.ptr 1 0,false),(9,.ptr 2 0,false),(13,sl 5 j5 bs,false),(14,.int .i64 ((bs.getD []).length:Int),false),(15,.int .i64 i,false)],[.cells (c1s 0 none),.cells (c1s 0 none),.cells [(.bool false,false)]]⟩
def qqp:Int ⊕ (Int × za × TE)→jb × ASt
 | .inl i=>(.exit 0,⟨[(0,sl 8 qq ps,false),(1,sl 1 qm ch,false),(6,.ptr 0 0,false),(8,.ptr 1 0,false),(9,.ptr 2 0,false),(13,sl 5 j5 bs,false),(14,.int .i64 ((bs.getD []).length:Int),false),(15,.int .i64 i,false),(16,.bool false,false)],[.cells (c1s 0 none),.cells (c1s 0 none),.cells [(.bool false,false)]]⟩)
 | .inr d=>(.exit 0,⟨qcb ps ch bs ((bs.getD []).length:Int) d.1,H5 d.1 d.2.2 true d.1 d.2.1⟩)
theorem jjo (i:Int) (r) (h:qg1 ps ch bs i=some r):jt pr qa9 (qh7 ps ch bs) (qqp ps ch bs) i r:=by
 unfold qg1 at h
 have g159:=juz (ps:=ps) (ch:=ch) (c:=false)
 rcases qb h with ⟨h1,k⟩ | ⟨h1,k⟩
 ·obtain ⟨b,h2,k⟩:=qa k
  obtain ⟨q,h3,k⟩:=qa k
  have hx:=jao ps ch bs ((bs.getD []).length:Int) i b h3
  simp only [qcb,H5,c1s,bcs] at hx
  rw [q7p]
  cases q with
  | inl s=>
   cases k
   dsimp only at hx
   refine qdi (st':=⟨[(0,sl 8 qq ps,false),(1,sl 1 qm ch,false),(6,.ptr 0 0,false),(8,.ptr 1 0,false),(9,.ptr 2 0,false),(13,sl 5 j5 bs,false),(14,.int .i64 ((bs.getD []).length:Int),false),(15,.int .i64 (qg .i64 (i + 1)),false)],[.cells (c1s 0 none),.cells (c1s 0 none),.cells [(.bool false,false)]]++[.cells [(.int .i64 i,false)],.cells (bcs b)]⟩) ?_ ?_
   ·simp only [go_sem,seval,qyg,qzy,qz6,q0c,qyz,pcL,pcR,pcB,qa9,qh7,c1s,bcs,h1,qu h2,g159,hx] <;> rfl
   ·exact qrm rfl rfl (by first | simp only [go_sem,seval,qh7,c1s] | rfl) (by first | simp only [go_sem,seval,qh7,c1s] | rfl)
  | inr x=>
   cases k
   dsimp only at hx
   refine qh ?_
   simp only [go_sem,seval,qyg,qzy,qz6,q0c,qyz,pcL,pcR,pcB,qa9,qh7,c1s,bcs,h1,qu h2,g159,hx,qqp,qcb,H5] <;> rfl
 cases k
 exact qh (by simp only [go_sem,seval,qa9,qh7,h1,qqp] <;> rfl)
theorem jgc {i:Int} {d} (h:itO (qg1 ps ch bs) i=some d):X pr (.loop qa9) (qh7 ps ch bs i)=some (qqp ps ch bs d):=j9 (jjo ps ch bs) (fun d=>by rcases d with d | d <;> (intro hh; cases hh)) h
end
noncomputable def f117 (ps:TP) (ch:TI) (bs:TB):Option (qgu × Bool):=
 qc (itO (qg1 ps ch bs) 0) fun d=>match d with
  | .inl _=>some (⟨0,none⟩,false)
  | .inr d=>some (⟨d.1,d.2.2⟩,true)
theorem jvg {ps:TP} {ch:TI} {bs:TB} {r} (h:f117 ps ch bs=some r):qf pr (X pr) 117 [sl 8 qq ps,sl 1 qm ch,sl 5 j5 bs]=some (.tup [.agg [.int .i64 r.1.band,sl 3 vel r.1.ladder],.bool r.2],false):=by
 unfold f117 at h
 obtain ⟨d,h1,h⟩:=qa h
 have hl:=jgc ps ch bs h1
 have hnl:sl 3 vel (none:TE)=.list true 0 []:=rfl
 cases d with
 | inl i=>
  cases h
  simp only [qh7,qqp,c1s,hnl] at hl
  refine qn (f:=c117) rfl rfl rfl (by first | rfl | simp only [go_sem,seval]) ?_
  simp only [go_sem,seval,c117,hl]
  exact ⟨_,rfl⟩
 | inr d=>
  cases h
  simp only [qh7,qqp,c1s,qcb,H5,bcs,hnl] at hl
  refine qn (f:=c117) rfl rfl rfl (by first | rfl | simp only [go_sem,seval]) ?_
  simp only [go_sem,seval,c117,hl]
  exact ⟨_,rfl⟩
end Go.Z
