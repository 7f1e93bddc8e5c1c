/- Chapter 4. -/
import Derived.Test.YtnjngdcbkkonnaaGreatDoorA1
set_option linter.unusedVariables false
set_option linter.unusedSimpArgs false
set_option maxRecDepth 100000
set_option maxHeartbeats 4000000
namespace Go.Z
open Go Go.Abs
noncomputable def f175 (a0:qy):Option Int:=
 some (qg .i64 ((qg .i64 (a0.num * a0.num)) + (qg .i64 (a0.den * a0.den))))
theorem jg0 {a0:qy} {r} (h:f175 a0=some r):qf pr (X pr) 175 [.agg [.int .i64 a0.num,.int .i64 a0.den]]=some (.int .i64 r,false):=by
 unfold f175 at h
 obtain rfl:=Option.some.inj h
 refine qn (f:=c175) rfl rfl rfl (by first | rfl | simp only [go_sem,seval]) ?_
 simp only [go_sem,seval,c175]
 exact ⟨_,rfl⟩
noncomputable def f207 (a0:qy) (a1:qy):Option qy:=
 some (⟨qg .i64 ((qg .i64 (a0.num * a1.num)) - (qg .i64 (a0.den * a1.den))),qg .i64 ((qg .i64 (a0.num * a1.den)) + (qg .i64 (a0.den * a1.num)))⟩)
theorem qnd {a0:qy} {a1:qy} {r} (h:f207 a0 a1=some r):qf pr (X pr) 207 [.agg [.int .i64 a0.num,.int .i64 a0.den],.agg [.int .i64 a1.num,.int .i64 a1.den]]=some (.agg [.int .i64 r.num,.int .i64 r.den],false):=by
 unfold f207 at h
 obtain rfl:=Option.some.inj h
 refine qn (f:=c207) rfl rfl rfl (by first | rfl | simp only [go_sem,seval]) ?_
 simp only [go_sem,seval,c207]
 exact ⟨_,rfl⟩
noncomputable def f234 (a0:qy) (a1:qy):Option qy:=
 some (⟨qg .i64 (a0.num + a1.num),qg .i64 (a0.den + a1.den)⟩)
theorem q42 {a0:qy} {a1:qy} {r} (h:f234 a0 a1=some r):qf pr (X pr) 234 [.agg [.int .i64 a0.num,.int .i64 a0.den],.agg [.int .i64 a1.num,.int .i64 a1.den]]=some (.agg [.int .i64 r.num,.int .i64 r.den],false):=by
 unfold f234 at h
 obtain rfl:=Option.some.inj h
 refine qn (f:=c234) rfl rfl rfl (by first | rfl | simp only [go_sem,seval]) ?_
 simp only [go_sem,seval,c234]
 exact ⟨_,rfl⟩
noncomputable def f206 (a0:zm) (a1:zm):Option zm:=
 qc (f207 (⟨a0.m0,a0.m1⟩) (⟨a1.m0,a1.m1⟩)) fun v1=>
 qc (f207 (⟨a0.m2,a0.m3⟩) (⟨a1.m4,a1.m5⟩)) fun v3=>
 qc (f234 v1 v3) fun v5=>
 qc (f207 (⟨a0.m0,a0.m1⟩) (⟨a1.m2,a1.m3⟩)) fun v7=>
 qc (f207 (⟨a0.m2,a0.m3⟩) (⟨a1.m6,a1.m7⟩)) fun v9=>
 qc (f234 v7 v9) fun v11=>
 qc (f207 (⟨a0.m4,a0.m5⟩) (⟨a1.m0,a1.m1⟩)) fun v13=>
 qc (f207 (⟨a0.m6,a0.m7⟩) (⟨a1.m4,a1.m5⟩)) fun v15=>
 qc (f234 v13 v15) fun v17=>
 qc (f207 (⟨a0.m4,a0.m5⟩) (⟨a1.m2,a1.m3⟩)) fun v19=>
 qc (f207 (⟨a0.m6,a0.m7⟩) (⟨a1.m6,a1.m7⟩)) fun v21=>
 qc (f234 v19 v21) fun v23=>
 some (⟨v5.num,v5.den,v11.num,v11.den,v17.num,v17.den,v23.num,v23.den⟩)
theorem jvd {a0:zm} {a1:zm} {r} (h:f206 a0 a1=some r):qf pr (X pr) 206 [.agg [.int .i64 a0.m0,.int .i64 a0.m1,.int .i64 a0.m2,.int .i64 a0.m3,.int .i64 a0.m4,.int .i64 a0.m5,.int .i64 a0.m6,.int .i64 a0.m7],.agg [.int .i64 a1.m0,.int .i64 a1.m1,.int .i64 a1.m2,.int .i64 a1.m3,.int .i64 a1.m4,.int .i64 a1.m5,.int .i64 a1.m6,.int .i64 a1.m7]]=some (.agg [.int .i64 r.m0,.int .i64 r.m1,.int .i64 r.m2,.int .i64 r.m3,.int .i64 r.m4,.int .i64 r.m5,.int .i64 r.m6,.int .i64 r.m7],false):=by
 unfold f206 at h
 obtain ⟨v1,h2,h⟩:=qa h
 have wh2:=qnd h2
 obtain ⟨v3,h4,h⟩:=qa h
 have wh4:=qnd h4
 obtain ⟨v5,h6,h⟩:=qa h
 have wh6:=q42 h6
 obtain ⟨v7,h8,h⟩:=qa h
 have wh8:=qnd h8
 obtain ⟨v9,h10,h⟩:=qa h
 have wh10:=qnd h10
 obtain ⟨v11,h12,h⟩:=qa h
 have wh12:=q42 h12
 obtain ⟨v13,h14,h⟩:=qa h
 have wh14:=qnd h14
 obtain ⟨v15,h16,h⟩:=qa h
 have wh16:=qnd h16
 obtain ⟨v17,h18,h⟩:=qa h
 have wh18:=q42 h18
 obtain ⟨v19,h20,h⟩:=qa h
 have wh20:=qnd h20
 obtain ⟨v21,h22,h⟩:=qa h
 have wh22:=qnd h22
 obtain ⟨v23,h24,h⟩:=qa h
 have wh24:=q42 h24
 obtain rfl:=Option.some.inj h
 refine qn (f:=c206) rfl rfl rfl (by first | rfl | simp only [go_sem,seval]) ?_
 simp only [go_sem,seval,c206,wh2,wh4,wh6,wh8,wh10,wh12,wh14,wh16,wh18,wh20,wh22,wh24]
 exact ⟨_,rfl⟩
noncomputable def f218 (a0:qy):Option zm:=
 some (⟨a0.num,a0.den,1,0,0,0,a0.num,a0.den⟩)
theorem jwf {a0:qy} {r} (h:f218 a0=some r):qf pr (X pr) 218 [.agg [.int .i64 a0.num,.int .i64 a0.den]]=some (.agg [.int .i64 r.m0,.int .i64 r.m1,.int .i64 r.m2,.int .i64 r.m3,.int .i64 r.m4,.int .i64 r.m5,.int .i64 r.m6,.int .i64 r.m7],false):=by
 unfold f218 at h
 obtain rfl:=Option.some.inj h
 refine qn (f:=c218) rfl rfl rfl (by first | rfl | simp only [go_sem,seval]) ?_
 simp only [go_sem,seval,c218]
 exact ⟨_,rfl⟩
noncomputable def f219 (a0:qy):Option zm:=
 some (⟨1,0,a0.num,a0.den,0,0,1,0⟩)
theorem jvn {a0:qy} {r} (h:f219 a0=some r):qf pr (X pr) 219 [.agg [.int .i64 a0.num,.int .i64 a0.den]]=some (.agg [.int .i64 r.m0,.int .i64 r.m1,.int .i64 r.m2,.int .i64 r.m3,.int .i64 r.m4,.int .i64 r.m5,.int .i64 r.m6,.int .i64 r.m7],false):=by
 unfold f219 at h
 obtain rfl:=Option.some.inj h
 refine qn (f:=c219) rfl rfl rfl (by first | rfl | simp only [go_sem,seval]) ?_
 simp only [go_sem,seval,c219]
 exact ⟨_,rfl⟩
noncomputable def f220 (a0:qy):Option zm:=
 some (⟨1,0,0,0,a0.num,a0.den,1,0⟩)
theorem jxo {a0:qy} {r} (h:f220 a0=some r):qf pr (X pr) 220 [.agg [.int .i64 a0.num,.int .i64 a0.den]]=some (.agg [.int .i64 r.m0,.int .i64 r.m1,.int .i64 r.m2,.int .i64 r.m3,.int .i64 r.m4,.int .i64 r.m5,.int .i64 r.m6,.int .i64 r.m7],false):=by
 unfold f220 at h
 obtain rfl:=Option.some.inj h
 refine qn (f:=c220) rfl rfl rfl (by first | rfl | simp only [go_sem,seval]) ?_
 simp only [go_sem,seval,c220]
 exact ⟨_,rfl⟩
noncomputable def f221 (a0:qy):Option zm:=
 some (⟨a0.num,a0.den,0,0,1,0,a0.num,a0.den⟩)
theorem jyp {a0:qy} {r} (h:f221 a0=some r):qf pr (X pr) 221 [.agg [.int .i64 a0.num,.int .i64 a0.den]]=some (.agg [.int .i64 r.m0,.int .i64 r.m1,.int .i64 r.m2,.int .i64 r.m3,.int .i64 r.m4,.int .i64 r.m5,.int .i64 r.m6,.int .i64 r.m7],false):=by
 unfold f221 at h
 obtain rfl:=Option.some.inj h
 refine qn (f:=c221) rfl rfl rfl (by first | rfl | simp only [go_sem,seval]) ?_
 simp only [go_sem,seval,c221]
 exact ⟨_,rfl⟩
noncomputable def quk (a0:Int) (a1:Int) (s0:Int × Int):Option ((Int × Int) ⊕ ((Int × Int))):=
 cond (decide (s0.2=0))
  (some (.inr (s0.1,s0.2)))
  (qc (qjx s0.1 s0.2) fun v8=>
  some (.inl (s0.2,v8)))
def qm7 (a0:Int) (a1:Int) (s0:Int × Int):ASt:=⟨[(0,.int .i64 a0,false),(1,.int .i64 a1,false),(4,.ptr 0 0,false),(5,.int .i64 s0.1,false),(6,.int .i64 s0.2,false)],[.cells [(.int .i64 0,false),(.int .i64 0,false)]]⟩
def qq8 (a0:Int) (a1:Int) (d:(Int × Int)):jb × ASt:=(.exit 0,⟨[(0,.int .i64 a0,false),(1,.int .i64 a1,false),(4,.ptr 0 0,false),(5,.int .i64 d.1,false),(6,.int .i64 d.2,false),(10,.bool false,false)],[.cells [(.int .i64 0,false),(.int .i64 0,false)]]⟩)
theorem jiw (a0:Int) (a1:Int) (s0:Int × Int) (r) (h:quk a0 a1 s0=some r):jt pr qqh (qm7 a0 a1) (qq8 a0 a1) s0 r:=by
 unfold quk at h
 rcases qb h with ⟨h7,h⟩ | ⟨h7,h⟩
 ·cases h
  exact qh (by simp only [go_sem,seval,qqh,qm7,h7,qq8] <;> rfl)
 obtain ⟨v8,h9,h⟩:=qa h
 cases h
 exact qw (by simp only [go_sem,seval,qqh,qm7,h7,qcu h9] <;> rfl) (Nat.le_refl _)
theorem jjg (a0:Int) (a1:Int) {s0:Int × Int} {d} (h:itO (quk a0 a1) s0=some d):X pr (.loop qqh) (qm7 a0 a1 s0)=some (qq8 a0 a1 d):=j9 (jiw a0 a1) (fun d hh=>by cases hh) h
noncomputable def f125 (a0:Int) (a1:Int):Option qy:=
 qc (itO (quk a0 a1) (a0,a1)) fun d10=>
 qc (qc7 .i64 a0 d10.1) fun v12=>
 qc (qc7 .i64 a1 d10.1) fun v14=>
 some (⟨v12,v14⟩)
theorem jwn {a0:Int} {a1:Int} {r} (h:f125 a0 a1=some r):qf pr (X pr) 125 [.int .i64 a0,.int .i64 a1]=some (.agg [.int .i64 r.num,.int .i64 r.den],false):=by
 unfold f125 at h
 obtain ⟨d10,h11,h⟩:=qa h
 have wh11:=jjg a0 a1 h11
 dsimp only [qm7,qq8] at wh11
 obtain ⟨v12,h13,h⟩:=qa h
 obtain ⟨v14,h15,h⟩:=qa h
 obtain rfl:=Option.some.inj h
 refine qn (f:=c125) rfl rfl rfl (by first | rfl | simp only [go_sem,seval]) ?_
 simp only [go_sem,seval,c125,wh11,yt h13,yt h15]
 exact ⟨_,rfl⟩
noncomputable def qui (a0:Int) (a1:Int) (s0:Int × Int):Option ((Int × Int) ⊕ ((Int × Int))):=
 cond (decide (s0.2=0))
  (some (.inr (s0.1,s0.2)))
  (qc (qjx s0.1 s0.2) fun v8=>
  some (.inl (s0.2,v8)))
def qmb (a0:Int) (a1:Int) (s0:Int × Int):ASt:=⟨[(0,.int .i64 a0,false),(1,.int .i64 a1,false),(4,.ptr 0 0,false),(5,.int .i64 s0.1,false),(6,.int .i64 s0.2,false)],[.cells [(.int .i64 0,false),(.int .i64 0,false)]]⟩
def qrg (a0:Int) (a1:Int) (d:(Int × Int)):jb × ASt:=(.exit 0,⟨[(0,.int .i64 a0,false),(1,.int .i64 a1,false),(4,.ptr 0 0,false),(5,.int .i64 d.1,false),(6,.int .i64 d.2,false),(10,.bool false,false)],[.cells [(.int .i64 0,false),(.int .i64 0,false)]]⟩)
theorem jfz (a0:Int) (a1:Int) (s0:Int × Int) (r) (h:qui a0 a1 s0=some r):jt pr qot (qmb a0 a1) (qrg a0 a1) s0 r:=by
 unfold qui at h
 rcases qb h with ⟨h7,h⟩ | ⟨h7,h⟩
 ·cases h
  exact qh (by simp only [go_sem,seval,qot,qmb,h7,qrg] <;> rfl)
 obtain ⟨v8,h9,h⟩:=qa h
 cases h
 exact qw (by simp only [go_sem,seval,qot,qmb,h7,qcu h9] <;> rfl) (Nat.le_refl _)
theorem jhb (a0:Int) (a1:Int) {s0:Int × Int} {d} (h:itO (qui a0 a1) s0=some d):X pr (.loop qot) (qmb a0 a1 s0)=some (qrg a0 a1 d):=j9 (jfz a0 a1) (fun d hh=>by cases hh) h
noncomputable def f174 (a0:Int) (a1:Int):Option qy:=
 qc (itO (qui a0 a1) (a0,a1)) fun d10=>
 qc (qc7 .i64 a0 d10.1) fun v12=>
 qc (qc7 .i64 a1 d10.1) fun v14=>
 some (⟨v12,v14⟩)
theorem juq {a0:Int} {a1:Int} {r} (h:f174 a0 a1=some r):qf pr (X pr) 174 [.int .i64 a0,.int .i64 a1]=some (.agg [.int .i64 r.num,.int .i64 r.den],false):=by
 unfold f174 at h
 obtain ⟨d10,h11,h⟩:=qa h
 have wh11:=jhb a0 a1 h11
 dsimp only [qmb,qrg] at wh11
 obtain ⟨v12,h13,h⟩:=qa h
 obtain ⟨v14,h15,h⟩:=qa h
 obtain rfl:=Option.some.inj h
 refine qn (f:=c174) rfl rfl rfl (by first | rfl | simp only [go_sem,seval]) ?_
 simp only [go_sem,seval,c174,wh11,yt h13,yt h15]
 exact ⟨_,rfl⟩
noncomputable def f166:Option qy:=
 some (⟨1,0⟩)
theorem qwd {r} (h:f166=some r):qf pr (X pr) 166 []=some (.agg [.int .i64 r.num,.int .i64 r.den],false):=by
 unfold f166 at h
 obtain rfl:=Option.some.inj h
 refine qn (f:=c166) rfl rfl rfl (by first | rfl | simp only [go_sem,seval]) ?_
 simp only [go_sem,seval,c166]
 exact ⟨_,rfl⟩
noncomputable def f168:Option qy:=
 some (⟨0,0⟩)
theorem qss {r} (h:f168=some r):qf pr (X pr) 168 []=some (.agg [.int .i64 r.num,.int .i64 r.den],false):=by
 unfold f168 at h
 obtain rfl:=Option.some.inj h
 refine qn (f:=c168) rfl rfl rfl (by first | rfl | simp only [go_sem,seval]) ?_
 simp only [go_sem,seval,c168]
 exact ⟨_,rfl⟩
noncomputable def f167 (a0:GEl) (a1:Int):Option qy:=
 some (⟨a0.a,qg .i64 (a1 * a0.b)⟩)
theorem jf3 {a0:GEl} {a1:Int} {r} (h:f167 a0 a1=some r):qf pr (X pr) 167 [.agg [.str a0.kind,.int .i64 a0.a,.int .i64 a0.b],.int .i64 a1]=some (.agg [.int .i64 r.num,.int .i64 r.den],false):=by
 unfold f167 at h
 obtain rfl:=Option.some.inj h
 refine qn (f:=c167) rfl rfl rfl (by first | rfl | simp only [go_sem,seval]) ?_
 simp only [go_sem,seval,c167]
 exact ⟨_,rfl⟩
noncomputable def f63 (a0:qy) (a1:qy):Option qy:=
 some (⟨qg .i64 ((qg .i64 (a0.num * a1.num)) - (qg .i64 (a0.den * a1.den))),qg .i64 ((qg .i64 (a0.num * a1.den)) + (qg .i64 (a0.den * a1.num)))⟩)
theorem W63 {a0:qy} {a1:qy} {r} (h:f63 a0 a1=some r):qf pr (X pr) 63 [.agg [.int .i64 a0.num,.int .i64 a0.den],.agg [.int .i64 a1.num,.int .i64 a1.den]]=some (.agg [.int .i64 r.num,.int .i64 r.den],false):=by
 unfold f63 at h
 obtain rfl:=Option.some.inj h
 refine qn (f:=c63) rfl rfl rfl (by first | rfl | simp only [go_sem,seval]) ?_
 simp only [go_sem,seval,c63]
 exact ⟨_,rfl⟩
noncomputable def f64 (a0:qy) (a1:qy):Option qy:=
 some (⟨qg .i64 (a0.num + a1.num),qg .i64 (a0.den + a1.den)⟩)
theorem W64 {a0:qy} {a1:qy} {r} (h:f64 a0 a1=some r):qf pr (X pr) 64 [.agg [.int .i64 a0.num,.int .i64 a0.den],.agg [.int .i64 a1.num,.int .i64 a1.den]]=some (.agg [.int .i64 r.num,.int .i64 r.den],false):=by
 unfold f64 at h
 obtain rfl:=Option.some.inj h
 refine qn (f:=c64) rfl rfl rfl (by first | rfl | simp only [go_sem,seval]) ?_
 simp only [go_sem,seval,c64]
 exact ⟨_,rfl⟩
noncomputable def qxy (a0:Int) (a1:Int) (s0:Int × Int):Option ((Int × Int) ⊕ ((Int × Int))):=
 cond (decide (s0.2=0))
  (some (.inr (s0.1,s0.2)))
  (qc (qjx s0.1 s0.2) fun v9=>
  some (.inl (s0.2,v9)))
def qps (a0:Int) (a1:Int) (s0:Int × Int):ASt:=⟨[(0,.int .i64 (qg .i64 (0 - a0)),false),(1,.int .i64 (qg .i64 (0 - a1)),false),(4,.ptr 0 0,false),(5,.int .i64 s0.1,false),(6,.int .i64 s0.2,false)],[.cells [(.int .i64 0,false),(.int .i64 0,false)]]⟩
def qux (a0:Int) (a1:Int) (d:(Int × Int)):jb × ASt:=(.exit 0,⟨[(0,.int .i64 (qg .i64 (0 - a0)),false),(1,.int .i64 (qg .i64 (0 - a1)),false),(4,.ptr 0 0,false),(5,.int .i64 d.1,false),(6,.int .i64 d.2,false),(19,.bool false,false)],[.cells [(.int .i64 0,false),(.int .i64 0,false)]]⟩)
theorem jra (a0:Int) (a1:Int) (s0:Int × Int) (r) (h:qxy a0 a1 s0=some r):jt pr qhz (qps a0 a1) (qux a0 a1) s0 r:=by
 unfold qxy at h
 rcases qb h with ⟨h8,h⟩ | ⟨h8,h⟩
 ·cases h
  exact qh (by simp only [go_sem,seval,qhz,qps,h8,qux] <;> rfl)
 obtain ⟨v9,h10,h⟩:=qa h
 cases h
 exact qw (by simp only [go_sem,seval,qhz,qps,h8,qcu h10] <;> rfl) (Nat.le_refl _)
theorem jqf (a0:Int) (a1:Int) {s0:Int × Int} {d} (h:itO (qxy a0 a1) s0=some d):X pr (.loop qhz) (qps a0 a1 s0)=some (qux a0 a1 d):=j9 (jra a0 a1) (fun d hh=>by cases hh) h
noncomputable def qtf (a0:Int) (a1:Int) (s0:Int × Int):Option ((Int × Int) ⊕ ((Int × Int))):=
 cond (decide (s0.2=0))
  (some (.inr (s0.1,s0.2)))
  (qc (qjx s0.1 s0.2) fun v24=>
  some (.inl (s0.2,v24)))
def qlh (a0:Int) (a1:Int) (s0:Int × Int):ASt:=⟨[(0,.int .i64 a0,false),(1,.int .i64 a1,false),(4,.ptr 0 0,false),(5,.int .i64 s0.1,false),(6,.int .i64 s0.2,false)],[.cells [(.int .i64 0,false),(.int .i64 0,false)]]⟩
def qqr (a0:Int) (a1:Int) (d:(Int × Int)):jb × ASt:=(.exit 0,⟨[(0,.int .i64 a0,false),(1,.int .i64 a1,false),(4,.ptr 0 0,false),(5,.int .i64 d.1,false),(6,.int .i64 d.2,false),(19,.bool false,false)],[.cells [(.int .i64 0,false),(.int .i64 0,false)]]⟩)
theorem jfu (a0:Int) (a1:Int) (s0:Int × Int) (r) (h:qtf a0 a1 s0=some r):jt pr qhz (qlh a0 a1) (qqr a0 a1) s0 r:=by
 unfold qtf at h
 rcases qb h with ⟨h23,h⟩ | ⟨h23,h⟩
 ·cases h
  exact qh (by simp only [go_sem,seval,qhz,qlh,h23,qqr] <;> rfl)
 obtain ⟨v24,h25,h⟩:=qa h
 cases h
 exact qw (by simp only [go_sem,seval,qhz,qlh,h23,qcu h25] <;> rfl) (Nat.le_refl _)
theorem jjd (a0:Int) (a1:Int) {s0:Int × Int} {d} (h:itO (qtf a0 a1) s0=some d):X pr (.loop qhz) (qlh a0 a1 s0)=some (qqr a0 a1 d):=j9 (jfu a0 a1) (fun d hh=>by cases hh) h
noncomputable def f66 (a0:Int) (a1:Int):Option qy:=
 cond (decide (a1 < 0))
  (qc (itO (qxy a0 a1) (max (qg .i64 (0 - a0)) (qg .i64 (0 - (qg .i64 (0 - a0)))),qg .i64 (0 - a1))) fun d11=>
  qc (qc7 .i64 (qg .i64 (0 - a0)) d11.1) fun v13=>
  qc (qc7 .i64 (qg .i64 (0 - a1)) d11.1) fun v15=>
  some (⟨v13,v15⟩))
  (qc (itO (qtf a0 a1) (max a0 (qg .i64 (0 - a0)),a1)) fun d26=>
  qc (qc7 .i64 a0 d26.1) fun v28=>
  qc (qc7 .i64 a1 d26.1) fun v30=>
  some (⟨v28,v30⟩))
theorem W66 {a0:Int} {a1:Int} {r} (h:f66 a0 a1=some r):qf pr (X pr) 66 [.int .i64 a0,.int .i64 a1]=some (.agg [.int .i64 r.num,.int .i64 r.den],false):=by
 unfold f66 at h
 rcases qb h with ⟨h1,h⟩ | ⟨h1,h⟩
 ·obtain ⟨d11,h12,h⟩:=qa h
  have wh12:=jqf a0 a1 h12
  dsimp only [qps,qux] at wh12
  obtain ⟨v13,h14,h⟩:=qa h
  obtain ⟨v15,h16,h⟩:=qa h
  obtain rfl:=Option.some.inj h
  refine qn (f:=c66) rfl rfl rfl (by first | rfl | simp only [go_sem,seval]) ?_
  simp only [go_sem,seval,c66,h1,wh12,yt h14,yt h16]
  exact ⟨_,rfl⟩
 obtain ⟨d26,h27,h⟩:=qa h
 have wh27:=jjd a0 a1 h27
 dsimp only [qlh,qqr] at wh27
 obtain ⟨v28,h29,h⟩:=qa h
 obtain ⟨v30,h31,h⟩:=qa h
 obtain rfl:=Option.some.inj h
 refine qn (f:=c66) rfl rfl rfl (by first | rfl | simp only [go_sem,seval]) ?_
 simp only [go_sem,seval,c66,h1,wh27,yt h29,yt h31]
 exact ⟨_,rfl⟩
noncomputable def f130 (a0:qy):Option Int:=
 some (qg .i64 ((qg .i64 (a0.num * a0.num)) + (qg .i64 (a0.den * a0.den))))
theorem jfc {a0:qy} {r} (h:f130 a0=some r):qf pr (X pr) 130 [.agg [.int .i64 a0.num,.int .i64 a0.den]]=some (.int .i64 r,false):=by
 unfold f130 at h
 obtain rfl:=Option.some.inj h
 refine qn (f:=c130) rfl rfl rfl (by first | rfl | simp only [go_sem,seval]) ?_
 simp only [go_sem,seval,c130]
 exact ⟨_,rfl⟩
noncomputable def f170 (a0:List UInt8) (a1:qy):Option zm:=
 cond (decide (a0=([115,101,114,105,101,115]:List UInt8)))
  (qc (f166) fun v2=>
  qc (f168) fun v4=>
  some (⟨v2.num,v2.den,a1.num,a1.den,v4.num,v4.den,v2.num,v2.den⟩))
  (cond (decide (a0=([115,104,117,110,116]:List UInt8)))
   (qc (f166) fun v7=>
   qc (f168) fun v9=>
   some (⟨v7.num,v7.den,v9.num,v9.den,a1.num,a1.den,v7.num,v7.den⟩))
   (cond (decide (a0=([98,108,111,99,107]:List UInt8)))
    (qc (f166) fun v12=>
    qc (f168) fun v14=>
    some (⟨a1.num,a1.den,v12.num,v12.den,v14.num,v14.den,a1.num,a1.den⟩))
    (qc (f168) fun v16=>
    qc (f166) fun v18=>
    some (⟨a1.num,a1.den,v16.num,v16.den,v18.num,v18.den,a1.num,a1.den⟩))))
theorem jvb {a0:List UInt8} {a1:qy} {r} (h:f170 a0 a1=some r):qf pr (X pr) 170 [.str a0,.agg [.int .i64 a1.num,.int .i64 a1.den]]=some (.agg [.int .i64 r.m0,.int .i64 r.m1,.int .i64 r.m2,.int .i64 r.m3,.int .i64 r.m4,.int .i64 r.m5,.int .i64 r.m6,.int .i64 r.m7],false):=by
 unfold f170 at h
 rcases qb h with ⟨h1,h⟩ | ⟨h1,h⟩
 ·obtain ⟨v2,h3,h⟩:=qa h
  obtain ⟨v4,h5,h⟩:=qa h
  obtain rfl:=Option.some.inj h
  refine qn (f:=c170) rfl rfl rfl (by first | rfl | simp only [go_sem,seval]) ?_
  simp only [go_sem,seval,c170,h1,qwd h3,qss h5]
  exact ⟨_,rfl⟩
 rcases qb h with ⟨h6,h⟩ | ⟨h6,h⟩
 ·obtain ⟨v7,h8,h⟩:=qa h
  obtain ⟨v9,h10,h⟩:=qa h
  obtain rfl:=Option.some.inj h
  refine qn (f:=c170) rfl rfl rfl (by first | rfl | simp only [go_sem,seval]) ?_
  simp only [go_sem,seval,c170,h1,h6,qwd h8,qss h10]
  exact ⟨_,rfl⟩
 rcases qb h with ⟨h11,h⟩ | ⟨h11,h⟩
 ·obtain ⟨v12,h13,h⟩:=qa h
  obtain ⟨v14,h15,h⟩:=qa h
  obtain rfl:=Option.some.inj h
  refine qn (f:=c170) rfl rfl rfl (by first | rfl | simp only [go_sem,seval]) ?_
  simp only [go_sem,seval,c170,h1,h6,h11,qwd h13,qss h15]
  exact ⟨_,rfl⟩
 obtain ⟨v16,h17,h⟩:=qa h
 obtain ⟨v18,h19,h⟩:=qa h
 obtain rfl:=Option.some.inj h
 refine qn (f:=c170) rfl rfl rfl (by first | rfl | simp only [go_sem,seval]) ?_
 simp only [go_sem,seval,c170,h1,h6,h11,qss h17,qwd h19]
 exact ⟨_,rfl⟩
theorem wr0:qg .i64 0=0:=by decide
theorem wr1:qg .i64 1=1:=by decide
theorem wr2:qg .i64 2=2:=by decide
theorem wr3:qg .i64 3=3:=by decide
theorem wr4:qg .i64 4=4:=by decide
theorem jh6 {e:Env} {a b:ABox}:gc 2 ⟨e,[a,b]⟩=⟨e,[a,b]⟩:=qib (Nat.le_refl _)
noncomputable def f169 (a0:zm) (a1:zm):Option zm:=
 qc (f63 (⟨a0.m0,a0.m1⟩) (⟨a1.m0,a1.m1⟩)) fun v1=>
 qc (f63 (⟨a0.m2,a0.m3⟩) (⟨a1.m4,a1.m5⟩)) fun v3=>
 qc (f64 v1 v3) fun v5=>
 qc (f63 (⟨a0.m0,a0.m1⟩) (⟨a1.m2,a1.m3⟩)) fun v7=>
 qc (f63 (⟨a0.m2,a0.m3⟩) (⟨a1.m6,a1.m7⟩)) fun v9=>
 qc (f64 v7 v9) fun v11=>
 qc (f63 (⟨a0.m4,a0.m5⟩) (⟨a1.m0,a1.m1⟩)) fun v13=>
 qc (f63 (⟨a0.m6,a0.m7⟩) (⟨a1.m4,a1.m5⟩)) fun v15=>
 qc (f64 v13 v15) fun v17=>
 qc (f63 (⟨a0.m4,a0.m5⟩) (⟨a1.m2,a1.m3⟩)) fun v19=>
 qc (f63 (⟨a0.m6,a0.m7⟩) (⟨a1.m6,a1.m7⟩)) fun v21=>
 qc (f64 v19 v21) fun v23=>
 some (⟨v5.num,v5.den,v11.num,v11.den,v17.num,v17.den,v23.num,v23.den⟩)
theorem jyb {a0:zm} {a1:zm} {r} (h:f169 a0 a1=some r):qf pr (X pr) 169 [.agg [.int .i64 a0.m0,.int .i64 a0.m1,.int .i64 a0.m2,.int .i64 a0.m3,.int .i64 a0.m4,.int .i64 a0.m5,.int .i64 a0.m6,.int .i64 a0.m7],.agg [.int .i64 a1.m0,.int .i64 a1.m1,.int .i64 a1.m2,.int .i64 a1.m3,.int .i64 a1.m4,.int .i64 a1.m5,.int .i64 a1.m6,.int .i64 a1.m7]]=some (.agg [.int .i64 r.m0,.int .i64 r.m1,.int .i64 r.m2,.int .i64 r.m3,.int .i64 r.m4,.int .i64 r.m5,.int .i64 r.m6,.int .i64 r.m7],false):=by
 unfold f169 at h
 obtain ⟨v1,h2,h⟩:=qa h
 have wh2:=W63 h2
 obtain ⟨v3,h4,h⟩:=qa h
 have wh4:=W63 h4
 obtain ⟨v5,h6,h⟩:=qa h
 have wh6:=W64 h6
 obtain ⟨v7,h8,h⟩:=qa h
 have wh8:=W63 h8
 obtain ⟨v9,h10,h⟩:=qa h
 have wh10:=W63 h10
 obtain ⟨v11,h12,h⟩:=qa h
 have wh12:=W64 h12
 obtain ⟨v13,h14,h⟩:=qa h
 have wh14:=W63 h14
 obtain ⟨v15,h16,h⟩:=qa h
 have wh16:=W63 h16
 obtain ⟨v17,h18,h⟩:=qa h
 have wh18:=W64 h18
 obtain ⟨v19,h20,h⟩:=qa h
 have wh20:=W63 h20
 obtain ⟨v21,h22,h⟩:=qa h
 have wh22:=W63 h22
 obtain ⟨v23,h24,h⟩:=qa h
 have wh24:=W64 h24
 have hr:⟨v5.num,v5.den,v11.num,v11.den,v17.num,v17.den,v23.num,v23.den⟩=r:=Option.some.inj h
 subst hr
 have this:∃ hh,jg pr (X pr) 169 [.agg [.int .i64 a0.m0,.int .i64 a0.m1,.int .i64 a0.m2,.int .i64 a0.m3,.int .i64 a0.m4,.int .i64 a0.m5,.int .i64 a0.m6,.int .i64 a0.m7],.agg [.int .i64 a1.m0,.int .i64 a1.m1,.int .i64 a1.m2,.int .i64 a1.m3,.int .i64 a1.m4,.int .i64 a1.m5,.int .i64 a1.m6,.int .i64 a1.m7]] []=some (.agg [.int .i64 v5.num,.int .i64 v5.den,.int .i64 v11.num,.int .i64 v11.den,.int .i64 v17.num,.int .i64 v17.den,.int .i64 v23.num,.int .i64 v23.den],false,hh):=by
  rw [j8 (show pr.fns 169=some c169 from rfl) (by simp)]
  simp only [c169,q7t,q7j]
  simp only [go_sem,seval,q2y,jh6,wr0,wr1,wr2,wr3,wr4,wh2,wh4,wh6,wh8,wh10,wh12,wh14,wh16,wh18,wh20,wh22,wh24]
  exact ⟨_,rfl⟩
 obtain ⟨hh,this⟩:=this
 exact qch rfl this (by first | rfl | simp only [go_sem,seval]) (by first | rfl | simp only [go_sem,seval])
def pcL:ACode→ACode
 | .seq a _=>a
 | x=>x
def pcR:ACode→ACode
 | .seq _ b=>b
 | x=>x
def pcB:ACode→ACode
 | .block _ b=>b
 | x=>x
def rfA:ACode→ACode
 | .rangeFunc _ _ a _=>a
 | x=>x
def rfB:ACode→ACode
 | .rangeFunc _ _ _ b=>b
 | x=>x
theorem qr8 {n:Nat} {v:AVal} {h:qk} (hn:h.length=n):z6 n v h=h:=by
 unfold z6
 rw [Nat.ble_eq_true_of_le (by omega)]; rfl
theorem qng {n:Nat} {v:AVal} {h t:qk} (hn:h.length=n) (hv:Abs.below n v=true) (hb:ju n h=true):z6 n v (h++t)=h:=by
 have ht:(h++t).take n=h:=by rw [← hn,List.take_left']; rfl
 unfold z6
 rw [ht,hv,hb]
 cases hc:Nat.ble (h++t).length n with
 | false=>rfl
 | true=>
  have:=Nat.le_of_ble_eq_true hc
  rw [List.length_append] at this
  have h0:t=[]:=List.length_eq_zero_iff.1 (by omega)
  subst h0
  simp
def mcs (m:zm):List (AVal × Bool):=[(.int .i64 m.m0,false),(.int .i64 m.m1,false),(.int .i64 m.m2,false),(.int .i64 m.m3,false),(.int .i64 m.m4,false),(.int .i64 m.m5,false),(.int .i64 m.m6,false),(.int .i64 m.m7,false)]
def gcs (d:qy):List (AVal × Bool):=[(.int .i64 d.num,false),(.int .i64 d.den,false)]
def qkv:ACode:=pcB (pcR (pcL (pcR (pcR c173.body))))
def qhw:ACode:=rfA qkv
def qge:ACode:=rfB qkv
theorem q8u:qkv=.rangeFunc (.tmp 18) [19,20] qhw qge:=rfl
section
variable (l:Option (List GEl)) (w:Int)
def qc5:Env:=[(4,.ptr 0 0,false),(5,.ptr 1 0,false),(6,.ptr 2 0,false),(7,.ptr 3 0,false),(18,.fn (.func 233) [] [.vptr (sl 3 vel l),.vptr (.int .i64 w)],false)]
def z2:List (AVal × Bool):=[(.int .i64 0,false),(.int .i64 0,false)]
def z8:List (AVal × Bool):=[(.int .i64 0,false),(.int .i64 0,false),(.int .i64 0,false),(.int .i64 0,false),(.int .i64 0,false),(.int .i64 0,false),(.int .i64 0,false),(.int .i64 0,false)]
def qo0 (m:zm) (d:qy):qk:=[.cells z8,.cells z2,.cells (mcs m),.cells (gcs d)]
def kw (m:zm) (d:qy) (pd:Option jb) (t:qk):qk:=.cells z8::.cells z2::.cells (mcs m)::.cells (gcs d)::.loop ⟨qc5 l w,[19,20],qhw,qge,pd⟩::t
def ke (s:List UInt8) (b:Bool) (n:Nat):AVal:=.agg [.str s,.bool b,.fn (.func n) [] []]
def ga (v:qy):AVal:=.agg [.int .i64 v.num,.int .i64 v.den]
def tl (s:List UInt8) (b:Bool) (n:Nat) (v:qy):qk:=[.cells [(.str s,false),(.bool b,false),(.fn (.func n) [] [],false)],.cells (gcs v)]
def t2 (x:GEl):qk:=[.map yh,.cells [(.str x.kind,false),(.int .i64 x.a,false),(.int .i64 x.b,false)]]
def qxv:Env:=[(4,.ptr 0 0,false),(5,.ptr 1 0,false),(6,.ptr 2 0,false),(7,.ptr 3 0,false),(8,.ptr 7 0,false),(9,.ptr 8 0,false)]
variable {l w}
theorem q8n {s b n} {v m d} {x:GEl}:X pr qhw ⟨(20,ga v,false)::(19,ke s b n,false)::qc5 l w,kw l w m d none (t2 x)⟩=some (.normal,⟨qxv,kw l w m d none (t2 x++tl s b n v)⟩):=by
 simp only [go_sem,seval,qhw,rfA,qkv,pcB,pcL,pcR,c173,qc5,ke,ga,kw,t2] <;> rfl
theorem q8e {s b n} {v c m m1:_} {d d1:qy} {x:GEl} {pd} (h1:qf pr (X pr) n [ga v]=some (.agg [.int .i64 c.m0,.int .i64 c.m1,.int .i64 c.m2,.int .i64 c.m3,.int .i64 c.m4,.int .i64 c.m5,.int .i64 c.m6,.int .i64 c.m7],false))
  (h2:f206 m c=some m1) (h3:cond b (f207 d v) (some d)=some d1):∃ e,X pr qge ⟨qxv,kw l w m d pd (t2 x++tl s b n v)⟩=some (.normal,⟨e,kw l w m1 d1 pd (t2 x++tl s b n v)⟩):=by
 have g2:=jvd h2
 simp only [ga] at h1
 cases b with
 | true=>
  have g3:=qnd (show f207 d v=some d1 from h3)
  simp only [go_sem,seval,qge,rfB,qkv,pcB,pcL,pcR,c173,qxv,kw,t2,tl,mcs,gcs,h1,g2,g3]
  exact ⟨_,rfl⟩
 | false=>
  obtain rfl:d=d1:=Option.some.inj h3
  simp only [go_sem,seval,qge,rfB,qkv,pcB,pcL,pcR,c173,qxv,kw,t2,tl,mcs,gcs,h1,g2]
  exact ⟨_,rfl⟩
theorem q4y:yy 7 (qc5 l w)=true:=by
 have hb:Abs.below 7 (sl 3 vel l)=true:=by simp only [go_sem,seval]
 have h1:jq 7 [.vptr (sl 3 vel l),.vptr (.int .i64 w)]=true:=by
  show (Abs.below 7 (sl 3 vel l) && true)=true
  rw [hb]; rfl
 have h2:Abs.below 7 (.fn (.func 233) [] [.vptr (sl 3 vel l),.vptr (.int .i64 w)])=true:=by
  show (true && jq 7 [.vptr (sl 3 vel l),.vptr (.int .i64 w)])=true
  rw [h1]; rfl
 simp only [qc5,yy,List.all_cons,List.all_nil,h2]
 rfl
theorem q1p:yy 6 (qc5 l w)=true:=by
 have hb:Abs.below 6 (sl 3 vel l)=true:=by simp only [go_sem,seval]
 have h1:jq 6 [.vptr (sl 3 vel l),.vptr (.int .i64 w)]=true:=by
  show (Abs.below 6 (sl 3 vel l) && true)=true
  rw [hb]; rfl
 have h2:Abs.below 6 (.fn (.func 233) [] [.vptr (sl 3 vel l),.vptr (.int .i64 w)])=true:=by
  show (true && jq 6 [.vptr (sl 3 vel l),.vptr (.int .i64 w)])=true
  rw [h1]; rfl
 simp only [qc5,yy,List.all_cons,List.all_nil,h2]
 rfl
theorem q3y {m d pd} {x:GEl}:ju 7 (kw l w m d pd (t2 x))=true:=by
 simp only [kw,t2,ju,List.all_cons,List.all_nil,kh,q4y,mcs,gcs,z8,z2,yh]
 rfl
theorem jwx {s b n} {v c m m1:_} {d d1:qy} {x:GEl} (h1:qf pr (X pr) n [ga v]=some (.agg [.int .i64 c.m0,.int .i64 c.m1,.int .i64 c.m2,.int .i64 c.m3,.int .i64 c.m4,.int .i64 c.m5,.int .i64 c.m6,.int .i64 c.m7],false))
  (h2:f206 m c=some m1) (h3:cond b (f207 d v) (some d)=some d1):kr (X pr) 4 [ke s b n,ga v] (kw l w m d none (t2 x))=some (.bool true,kw l w m1 d1 none (t2 x)):=by
 have g:∀ m d pd t,yd (kw l w m d pd t) 4=some (.loop ⟨qc5 l w,[19,20],qhw,qge,pd⟩):=fun _ _ _ _=>rfl
 have se:qdv (noOwn (qc5 l w)) [19,20] [ke s b n,ga v]=some ((20,ga v,false)::(19,ke s b n,false)::qc5 l w):=rfl
 have st:∀ m d pd pd' t,(kw l w m d pd t).set 4 (.loop ⟨qc5 l w,[19,20],qhw,qge,pd'⟩)=kw l w m d pd' t:=fun _ _ _ _ _=>rfl
 have hl:∀ m d pd,(kw l w m d pd (t2 x)).length=7:=fun _ _ _=>rfl
 have ha:∀ m d pd v t,Abs.below 7 v=true→z6 7 v (kw l w m d pd (t2 x++t))=kw l w m d pd (t2 x):=fun m d pd v t hv=>qng (h:=kw l w m d pd (t2 x)) rfl hv q3y
 obtain ⟨e,hb⟩:=q8e (l:=l) (w:=w) (s:=s) (x:=x) (pd:=some .normal) h1 h2 h3
 unfold kr
 simp only [g,se,q8n,Option.isNone_none,cond_true,st,hl,hb]
 rw [ha _ _ _ _ _ rfl]
end
noncomputable def kOf (s:List UInt8) (v:qy):Option (zm × Bool):=
 cond (decide (s=([98,108,111,99,107]:List UInt8))) (qc (f218 v) fun c=>some (c,true))
  (cond (decide (s=([115,101,114,105,101,115]:List UInt8))) (qc (f219 v) fun c=>some (c,false))
  (cond (decide (s=([115,104,117,110,116]:List UInt8))) (qc (f220 v) fun c=>some (c,false))
   (cond (decide (s=([116,114,97,112]:List UInt8))) (qc (f221 v) fun c=>some (c,true)) none)))
theorem jch {s:List UInt8} {v:qy} {c b} (h:kOf s v=some (c,b)):∃ t k n,j0 .str (.str s) yh 0=some (some (t,ke k b n))∧qf pr (X pr) n [ga v]=some (.agg [.int .i64 c.m0,.int .i64 c.m1,.int .i64 c.m2,.int .i64 c.m3,.int .i64 c.m4,.int .i64 c.m5,.int .i64 c.m6,.int .i64 c.m7],false):=by
 unfold kOf at h
 rcases qb h with ⟨h1,k⟩ | ⟨h1,k⟩
 ·obtain ⟨c',h2,k⟩:=qa k
  cases k
  exact ⟨_,_,_,qut h1,jwf h2⟩
 rcases qb k with ⟨h2,k⟩ | ⟨h2,k⟩
 ·obtain ⟨c',h3,k⟩:=qa k
  cases k
  exact ⟨_,_,_,q4h h1 h2,jvn h3⟩
 rcases qb k with ⟨h3,k⟩ | ⟨h3,k⟩
 ·obtain ⟨c',h4,k⟩:=qa k
  cases k
  exact ⟨_,_,_,q43 h1 h2 h3,jxo h4⟩
 rcases qb k with ⟨h4,k⟩ | ⟨h4,k⟩
 ·obtain ⟨c',h5,k⟩:=qa k
  cases k
  exact ⟨_,_,_,qu8 h1 h2 h3 h4,jyp h5⟩
 ·cases k
noncomputable def qxu (w:Int) (q:zm × qy) (x:GEl):Option (zm × qy):=
 qc (kOf x.kind ⟨x.a,qg .i64 (w * x.b)⟩) fun c=>qc (f206 q.1 c.1) fun m=>qc (cond c.2 (f207 q.2 ⟨x.a,qg .i64 (w * x.b)⟩) (some q.2)) fun d=>some (m,d)
noncomputable def qkp (w:Int):List GEl→zm × qy→Option (zm × qy)
 | [],q=>some q
 | x::l,q=>qc (qxu w q x) fun q'=>qkp w l q'
noncomputable def q02 (w:Int) (l:Option (List GEl)) (d:Int × zm × qy):Option ((Int × zm × qy) ⊕ (Int × zm × qy)):=
 cond (decide (d.1 < ((l.getD []).length:Int))) (qc (js (l.getD []) d.1) fun x=>qc (qxu w d.2 x) fun q=>some (.inl (qg .i64 (d.1 + 1),q))) (some (.inr d))
def qts (w:Int) (l:Option (List GEl)) (d:Int × zm × qy):ASt:=⟨[(0,.fn (.yield 4) [] [],false),(2,.vptr (.int .i64 w),false),(4,.map 5,false),(8,sl 3 vel l,false),(9,.int .i64 ((l.getD []).length:Int),false),(10,.int .i64 d.1,false)],kw l w d.2.1 d.2.2 none [.map yh]⟩
def qxt (w:Int) (l:Option (List GEl)) (d:Int × zm × qy):jb × ASt:=(.exit 0,⟨[(0,.fn (.yield 4) [] [],false),(2,.vptr (.int .i64 w),false),(4,.map 5,false),(8,sl 3 vel l,false),(9,.int .i64 ((l.getD []).length:Int),false),(10,.int .i64 d.1,false),(11,.bool false,false)],kw l w d.2.1 d.2.2 none [.map yh]⟩)
theorem jvs {w:Int} {l:Option (List GEl)} (d:Int × zm × qy) (r) (h:q02 w l d=some r):jt pr qp7 (qts w l) (qxt w l) d r:=by
 obtain ⟨i,m,e⟩:=d
 unfold q02 at h
 dsimp only at h
 rcases qb h with ⟨h1,k⟩ | ⟨h1,k⟩
 ·obtain ⟨x,h2,k⟩:=qa k
  obtain ⟨q,h3,k⟩:=qa k
  cases k
  unfold qxu at h3
  obtain ⟨⟨c,b⟩,h4,k⟩:=qa h3
  obtain ⟨m1,h5,k⟩:=qa k
  obtain ⟨d1,h6,k⟩:=qa k
  cases k
  obtain ⟨t,kk,n,g1,g2⟩:=jch h4
  have hy:=jwx (l:=l) (w:=w) (s:=kk) (x:=x) g2 h5 h6
  simp only [kw,t2,ke,ga] at hy g1
  refine qdi (st':=⟨[(0,.fn (.yield 4) [] [],false),(2,.vptr (.int .i64 w),false),(4,.map 5,false),(8,sl 3 vel l,false),(9,.int .i64 ((l.getD []).length:Int),false),(10,.int .i64 (qg .i64 (i + 1)),false)],kw l w m1 d1 none (t2 x)⟩) (by simp only [go_sem,seval,qp7,qts,kw,t2,h1,qu h2,g1,hy] <;> rfl) ?_
  exact qrm (h:=kw l w m1 d1 none [.map yh]) (h':=[.cells [(.str x.kind,false),(.int .i64 x.a,false),(.int .i64 x.b,false)]]) rfl rfl (by
   have hb:Abs.below 6 (sl 3 vel l)=true:=by simp only [go_sem,seval]
   show ((true && true) && ((true && true) && (true && (Abs.below 6 (sl 3 vel l) && (true && (true && true))))))=true
   rw [hb]; rfl) (by
   show ju 6 _=true
   simp only [kw,ju,List.all_cons,List.all_nil,kh,q1p,mcs,gcs,z8,z2,yh]
   rfl)
 ·cases k
  exact qh (by simp only [go_sem,seval,qp7,qts,kw,h1,qxt] <;> rfl)
theorem jbw {w:Int} {l:Option (List GEl)} (hl:(l.getD []).length≤5):∀ {k:Nat} {i:Nat} {q r:zm × qy},(l.getD []).length=i + k→qkp w ((l.getD []).drop i) q=some r→itO (q02 w l) ((i:Int),q)=some (((l.getD []).length:Int),r)
 | 0,i,q,r,hk,h=>by
  rw [List.drop_eq_nil_of_le (by omega)] at h
  cases h
  have hd:decide ((i:Int) < ((l.getD []).length:Int))=false:=decide_eq_false (by omega)
  rw [zy (d:=((i:Int),q)) (by simp only [q02,hd,cond_false]),show (i:Int)=((l.getD []).length:Int) by omega]
 | k + 1,i,q,r,hk,h=>by
  have hi:i < (l.getD []).length:=by omega
  have hx:(l.getD [])[i]?=some (l.getD [])[i]:=List.getElem?_eq_getElem hi
  rw [zr hx] at h
  simp only [qkp] at h
  obtain ⟨q1,h1,h2⟩:=qa h
  have hd:decide ((i:Int) < ((l.getD []).length:Int))=true:=decide_eq_true (by omega)
  have hw:qg .i64 ((i:Int) + 1)=((i + 1:Nat):Int):=by
   have:i≤4:=by omega
   match i,this with
   | 0,_=>rfl
   | 1,_=>rfl
   | 2,_=>rfl
   | 3,_=>rfl
   | 4,_=>rfl
  rw [qab (s':=(((i + 1:Nat):Int),q1)) (by simp only [q02,hd,cond_true,qei,hx,qc,h1,hw])]
  exact jbw hl (k:=k) (i:=i + 1) (by omega) h2
section
variable {l:Option (List GEl)} {w:Int} {m m1:zm} {d d1:qy}
theorem jt2 (hl:(l.getD []).length≤5) (h:qkp w (l.getD []) (m,d)=some (m1,d1)):∃ t,jg pr (X pr) 233 [.fn (.yield 4) [] [],.vptr (sl 3 vel l),.vptr (.int .i64 w)] (kw l w m d none [])=some (.tup [],false,kw l w m1 d1 none t):=by
 have h0:=jbw (k:=(l.getD []).length) (i:=0) hl (by omega) (by rw [List.drop_zero]; exact h)
 have h1:X pr (.loop qp7) (qts w l (0,m,d))=some (qxt w l (((l.getD []).length:Int),m1,d1)):=j9 jvs (fun d=>by intro hh; cases hh) h0
 rw [j8 (show pr.fns 233=some c233 from rfl) (by simp)]
 have hm:pr.maps 193=some yh:=rfl
 simp only [qts,qxt,kw] at h1 ⊢
 simp only [go_sem,seval,c233,h1,hm]
 exact ⟨_,rfl⟩
theorem q9r (hl:(l.getD []).length≤5) (h:qkp w (l.getD []) (m,d)=some (m1,d1)):X pr qkv ⟨qc5 l w,qo0 m d⟩=some (.normal,⟨qc5 l w,qo0 m1 d1⟩):=by
 obtain ⟨t,h1⟩:=jt2 hl h
 have hb:∀ m d,ju 4 (qo0 m d)=true:=by
  intro m d
  simp only [qo0,ju,List.all_cons,List.all_nil,kh,mcs,gcs,z8,z2]
  rfl
 rw [q8u,qv3]
 unfold qbe
 have hn:(zq qhw && zq qge)=true:=rfl
 have he:qj (qc5 l w) (.tmp 18)=some (.fn (.func 233) [] [.vptr (sl 3 vel l),.vptr (.int .i64 w)]):=rfl
 have hl:∀ m d,(qo0 m d).length=4:=fun _ _=>rfl
 have hap:qo0 m d++[.loop ⟨qc5 l w,[19,20],qhw,qge,none⟩]=kw l w m d none []:=rfl
 have hg:yd (kw l w m1 d1 none t) 4=some (.loop ⟨qc5 l w,[19,20],qhw,qge,none⟩):=rfl
 have ht:(kw l w m1 d1 none t).take 4=qo0 m1 d1:=rfl
 simp only [hn,cond_true,he,hl,List.nil_append,List.cons_append,hap,h1,hg,ht,hb]
end
def q7x:ACode:=pcL c173.body
def q77:ACode:=pcL (pcR c173.body)
def q6l:ACode:=pcL (pcL (pcR (pcR c173.body)))
def q7u:ACode:=pcR (pcR (pcR c173.body))
noncomputable def f173 (l:Option (List GEl)) (w:Int):Option (zm × qy):=cond (decide ((l.getD []).length≤5)) (qkp w (l.getD []) (⟨1,0,0,0,0,0,1,0⟩,⟨1,0⟩)) none
theorem ju1 {l:Option (List GEl)} {w:Int}:qf pr (X pr) 205 [sl 3 vel l,.int .i64 w]=some (.fn (.func 233) [] [.vptr (sl 3 vel l),.vptr (.int .i64 w)],false):=by
 have this:∃ hh,jg pr (X pr) 205 [sl 3 vel l,.int .i64 w] []=some (.fn (.func 233) [] [.vptr (sl 3 vel l),.vptr (.int .i64 w)],false,hh):=by
  rw [j8 (show pr.fns 205=some c205 from rfl) (by simp)]
  simp only [go_sem,seval,c205]
  exact ⟨_,rfl⟩
 obtain ⟨hh,this⟩:=this
 have hb:Abs.below 0 (sl 3 vel l)=true:=by simp only [go_sem,seval]
 have hp:Abs.below 0 (.fn (.func 233) [] [.vptr (sl 3 vel l),.vptr (.int .i64 w)])=true:=by
  show (true && (Abs.below 0 (sl 3 vel l) && true))=true
  rw [hb]; rfl
 exact qch rfl this (by first | rfl | simp only [go_sem,seval]) (by first | exact hp | simp only [go_sem,seval])
theorem jus {l:Option (List GEl)} {w:Int} {r} (h:f173 l w=some r):qf pr (X pr) 173 [sl 3 vel l,.int .i64 w]=some (.tup [.agg [.int .i64 r.1.m0,.int .i64 r.1.m1,.int .i64 r.1.m2,.int .i64 r.1.m3,.int .i64 r.1.m4,.int .i64 r.1.m5,.int .i64 r.1.m6,.int .i64 r.1.m7],.agg [.int .i64 r.2.num,.int .i64 r.2.den]],false):=by
 unfold f173 at h
 rcases qb h with ⟨h1,k⟩ | ⟨h1,k⟩
 ·obtain ⟨m,d⟩:=r
  have hx:=q9r (by simpa using h1) k
  have g205:=ju1 (l:=l) (w:=w)
  have this:∃ hh,jg pr (X pr) 173 [sl 3 vel l,.int .i64 w] []=some (.tup [.agg [.int .i64 m.m0,.int .i64 m.m1,.int .i64 m.m2,.int .i64 m.m3,.int .i64 m.m4,.int .i64 m.m5,.int .i64 m.m6,.int .i64 m.m7],.agg [.int .i64 d.num,.int .i64 d.den]],false,hh):=by
   rw [j8 (show pr.fns 173=some ⟨34,.seq q7x (.seq q77 (.seq (.seq q6l (.block 0 qkv)) q7u)),[.cell 4 true 8,.cell 5 true 2]⟩ from rfl) (by simp)]
   simp only [qc5,qo0,mcs,gcs,z8,z2] at hx
   simp only [go_sem,seval,q7x,q77,q6l,q7u,pcL,pcR,c173,g205,hx]
   exact ⟨_,rfl⟩
  obtain ⟨hh,this⟩:=this
  exact qch rfl this (by first | rfl | simp only [go_sem,seval]) (by first | rfl | simp only [go_sem,seval])
 ·cases k
end Go.Z
