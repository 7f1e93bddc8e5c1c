/- Chapter 4. -/
import Derived.Test.YtnjngdcbkkonnaaGreatDoorA13
set_option linter.unusedVariables false
set_option linter.unusedSimpArgs false
set_option maxRecDepth 100000
set_option maxHeartbeats 4000000
namespace Go.Z
open Go Go.Abs
noncomputable def qod (a0:TI) (a1:TI) (s0:Int):Option (Int ⊕ (Unit ⊕ Int)):=
 cond (decide (s0 < ((a0.getD []).length:Int)))
  (qc (js (a0.getD []) s0) fun v15=>
  qc (js (a1.getD []) s0) fun v17=>
  cond (decide (v15=v17))
   (some (.inl (qg .i64 (s0 + 1))))
   (some (.inr (.inl ()))))
  (some (.inr (.inr s0)))
def qjs (a0:TI) (a1:TI) (s0:Int):ASt:=⟨[(0,sl 1 qm a0,false),(1,sl 1 qm a1,false),(5,.int .i64 s0,false)],[]⟩
def qmi (a0:TI) (a1:TI):Unit ⊕ Int→jb × ASt
 | .inl d=>(.ret,⟨[(4,.bool false,false)],[]⟩)
 | .inr d=>(.exit 0,⟨[(0,sl 1 qm a0,false),(1,sl 1 qm a1,false),(5,.int .i64 d,false),(14,.bool false,false)],[]⟩)
theorem jov (a0:TI) (a1:TI) (s0:Int) (r) (h:qod a0 a1 s0=some r):jt pr qqx (qjs a0 a1) (qmi a0 a1) s0 r:=by
 unfold qod at h
 rcases qb h with ⟨h14,h⟩ | ⟨h14,h⟩
 ·obtain ⟨v15,h16,h⟩:=qa h
  obtain ⟨v17,h18,h⟩:=qa h
  rcases qb h with ⟨h19,h⟩ | ⟨h19,h⟩
  ·cases h
   exact qw (by simp only [go_sem,seval,qqx,qjs,h14,qu h16,qu h18,h19] <;> rfl) (Nat.le_refl _)
  cases h
  exact qh (by simp only [go_sem,seval,qqx,qjs,h14,qu h16,qu h18,h19,qmi] <;> rfl)
 cases h
 exact qh (by simp only [go_sem,seval,qqx,qjs,h14,qmi] <;> rfl)
theorem jbd (a0:TI) (a1:TI) {s0:Int} {d} (h:itO (qod a0 a1) s0=some d):X pr (.loop qqx) (qjs a0 a1 s0)=some (qmi a0 a1 d):=j9 (jov a0 a1) (fun d=>by rcases d with d|d <;> (intro hh; cases hh)) h
noncomputable def f42 (a0:TI) (a1:TI):Option Bool:=
 cond (decide (((a0.getD []).length:Int)=((a1.getD []).length:Int)))
  (qc (itO (qod a0 a1) 0) fun d20=>match d20 with
   | .inl d22=>
    some false
   | .inr d23=>
    some true)
  (some false)
theorem W42 {a0:TI} {a1:TI} {r} (h:f42 a0 a1=some r):qf pr (X pr) 42 [sl 1 qm a0,sl 1 qm a1]=some (.bool r,false):=by
 unfold f42 at h
 rcases qb h with ⟨h1,h⟩ | ⟨h1,h⟩
 ·obtain ⟨d20,h21,h⟩:=qa h
  rcases d20 with d22 | d23
  ·have wh21:=jbd a0 a1 h21
   dsimp only [qjs,qmi] at wh21
   obtain rfl:=Option.some.inj h
   refine qn (f:=c42) rfl rfl rfl (by first | rfl | simp only [go_sem,seval]) ?_
   simp only [go_sem,seval,c42,h1,wh21]
   exact ⟨_,rfl⟩
  have wh21:=jbd a0 a1 h21
  dsimp only [qjs,qmi] at wh21
  obtain rfl:=Option.some.inj h
  refine qn (f:=c42) rfl rfl rfl (by first | rfl | simp only [go_sem,seval]) ?_
  simp only [go_sem,seval,c42,h1,wh21]
  exact ⟨_,rfl⟩
 obtain rfl:=Option.some.inj h
 refine qn (f:=c42) rfl rfl rfl (by first | rfl | simp only [go_sem,seval]) ?_
 simp only [go_sem,seval,c42,h1]
 exact ⟨_,rfl⟩
noncomputable def f161 (a0:TI):Option (TI × Bool):=
 cond a0.isNone
  (some (none,false))
  (qc (apO (some []) (a0.getD [])) fun v2=>
  some (v2,true))
theorem jwa {a0:TI} {r} (h:f161 a0=some r):qf pr (X pr) 161 [sl 1 qm a0]=some (sl 1 qm r.1,r.2):=by
 unfold f161 at h
 rcases qb h with ⟨h1,h⟩ | ⟨h1,h⟩
 ·have hr:(none,false)=r:=Option.some.inj h
  subst hr
  have this:∃ hh,jg pr (X pr) 161 [sl 1 qm a0] []=some (.list true 0 [],false,hh):=by
   rw [j8 (show pr.fns 161=some c161 from rfl) (by simp)]
   simp only [go_sem,seval,c161,h1]
   exact ⟨_,rfl⟩
  obtain ⟨hh,this⟩:=this
  exact zk rfl this (by first | rfl | simp only [go_sem,seval]) (by first | rfl | simp only [go_sem,seval]) (by first | rfl | simp only [go_sem,seval])
 obtain ⟨v2,h3,h⟩:=qa h
 have hr:(v2,true)=r:=Option.some.inj h
 subst hr
 have this:∃ hh,jg pr (X pr) 161 [sl 1 qm a0] []=some (sl 1 qm v2,true,hh):=by
  rw [j8 (show pr.fns 161=some c161 from rfl) (by simp)]
  simp only [go_sem,seval,c161,h1,qaz h3]
  exact ⟨_,rfl⟩
 obtain ⟨hh,this⟩:=this
 exact zk rfl this (by first | rfl | simp only [go_sem,seval]) (by first | rfl | simp only [go_sem,seval]) (by first | rfl | simp only [go_sem,seval])
noncomputable def f232 (a0:Int):Option Bool:=
 some false
theorem qhd {a0:Int} {r} (h:f232 a0=some r):qf pr (X pr) 232 [.int .i64 a0]=some (.bool r,false):=by
 unfold f232 at h
 obtain rfl:=Option.some.inj h
 refine qn (f:=c232) rfl rfl rfl (by first | rfl | simp only [go_sem,seval]) ?_
 simp only [go_sem,seval,c232]
 exact ⟨_,rfl⟩
noncomputable def f203 (a0:Int) (a1:Int):Option Int:=
 qc (f232 a0) fun v1=>
 qc (f232 a1) fun v3=>
 cond v1
  (cond v3
   (some 0)
   (some (-1)))
  (cond v3
   (some 1)
   (cond (decide (a0 < a1))
    (some (-1))
    (cond (decide (a1 < a0))
     (some 1)
     (some 0))))
theorem q8r {a0:Int} {a1:Int} {r} (h:f203 a0 a1=some r):qf pr (X pr) 203 [.int .i64 a0,.int .i64 a1]=some (.int .i64 r,false):=by
 unfold f203 at h
 obtain ⟨v1,h2,h⟩:=qa h
 obtain ⟨v3,h4,h⟩:=qa h
 rcases qb h with ⟨h5,h⟩ | ⟨h5,h⟩
 ·rcases qb h with ⟨h6,h⟩ | ⟨h6,h⟩
  ·obtain rfl:=Option.some.inj h
   refine qn (f:=c203) rfl rfl rfl (by first | rfl | simp only [go_sem,seval]) ?_
   simp only [go_sem,seval,c203,qhd h2,qhd h4,h5,h6]
   exact ⟨_,rfl⟩
  obtain rfl:=Option.some.inj h
  refine qn (f:=c203) rfl rfl rfl (by first | rfl | simp only [go_sem,seval]) ?_
  simp only [go_sem,seval,c203,qhd h2,qhd h4,h5,h6]
  exact ⟨_,rfl⟩
 rcases qb h with ⟨h7,h⟩ | ⟨h7,h⟩
 ·obtain rfl:=Option.some.inj h
  refine qn (f:=c203) rfl rfl rfl (by first | rfl | simp only [go_sem,seval]) ?_
  simp only [go_sem,seval,c203,qhd h2,qhd h4,h5,h7]
  exact ⟨_,rfl⟩
 rcases qb h with ⟨h8,h⟩ | ⟨h8,h⟩
 ·obtain rfl:=Option.some.inj h
  refine qn (f:=c203) rfl rfl rfl (by first | rfl | simp only [go_sem,seval]) ?_
  simp only [go_sem,seval,c203,qhd h2,qhd h4,h5,h7,h8]
  exact ⟨_,rfl⟩
 rcases qb h with ⟨h9,h⟩ | ⟨h9,h⟩
 ·obtain rfl:=Option.some.inj h
  refine qn (f:=c203) rfl rfl rfl (by first | rfl | simp only [go_sem,seval]) ?_
  simp only [go_sem,seval,c203,qhd h2,qhd h4,h5,h7,h8,h9]
  exact ⟨_,rfl⟩
 obtain rfl:=Option.some.inj h
 refine qn (f:=c203) rfl rfl rfl (by first | rfl | simp only [go_sem,seval]) ?_
 simp only [go_sem,seval,c203,qhd h2,qhd h4,h5,h7,h8,h9]
 exact ⟨_,rfl⟩
noncomputable def qgw (a0:TI) (a1:TI) (s0:Int):Option (Int ⊕ (Int ⊕ Int)):=
 cond (decide (s0 < ((a0.getD []).length:Int)))
  (qc (js (a0.getD []) s0) fun v20=>
  cond (decide (((a1.getD []).length:Int)≤s0))
   (some (.inr (.inl 1)))
   (qc (js (a1.getD []) s0) fun v23=>
   qc (f203 v20 v23) fun v25=>
   cond (decide (v25=0))
    (some (.inl (qg .i64 (s0 + 1))))
    (some (.inr (.inl v25)))))
  (some (.inr (.inr s0)))
def qeq (a0:TI) (a1:TI) (s0:Int):ASt:=⟨[(0,sl 1 qm a0,false),(1,sl 1 qm a1,false),(9,sl 1 qm a0,false),(10,.int .i64 ((a0.getD []).length:Int),false),(11,.int .i64 s0,false)],[]⟩
def qfl (a0:TI) (a1:TI):Int ⊕ Int→jb × ASt
 | .inl d=>(.ret,⟨[(4,.int .i64 d,false)],[]⟩)
 | .inr d=>(.exit 0,⟨[(0,sl 1 qm a0,false),(1,sl 1 qm a1,false),(9,sl 1 qm a0,false),(10,.int .i64 ((a0.getD []).length:Int),false),(11,.int .i64 d,false),(12,.bool false,false)],[]⟩)
theorem jgy (a0:TI) (a1:TI) (s0:Int) (r) (h:qgw a0 a1 s0=some r):jt pr qjp (qeq a0 a1) (qfl a0 a1) s0 r:=by
 unfold qgw at h
 rcases qb h with ⟨h19,h⟩ | ⟨h19,h⟩
 ·obtain ⟨v20,h21,h⟩:=qa h
  rcases qb h with ⟨h22,h⟩ | ⟨h22,h⟩
  ·cases h
   exact qh (by simp only [go_sem,seval,qjp,qeq,h19,qu h21,h22,qfl] <;> rfl)
  obtain ⟨v23,h24,h⟩:=qa h
  obtain ⟨v25,h26,h⟩:=qa h
  rcases qb h with ⟨h27,h⟩ | ⟨h27,h⟩
  ·cases h
   exact qw (by simp only [go_sem,seval,qjp,qeq,h19,qu h21,h22,qu h24,q8r h26,h27] <;> rfl) (Nat.le_refl _)
  cases h
  exact qh (by simp only [go_sem,seval,qjp,qeq,h19,qu h21,h22,qu h24,q8r h26,h27,qfl] <;> rfl)
 cases h
 exact qh (by simp only [go_sem,seval,qjp,qeq,h19,qfl] <;> rfl)
theorem q6b (a0:TI) (a1:TI) {s0:Int} {d} (h:itO (qgw a0 a1) s0=some d):X pr (.loop qjp) (qeq a0 a1 s0)=some (qfl a0 a1 d):=j9 (jgy a0 a1) (fun d=>by rcases d with d|d <;> (intro hh; cases hh)) h
noncomputable def f204 (a0:TI) (a1:TI):Option Int:=
 qc (itO (qgw a0 a1) 0) fun d28=>match d28 with
  | .inl d30=>
   some d30
  | .inr d31=>
   cond (decide (((a0.getD []).length:Int) < ((a1.getD []).length:Int)))
    (some (-1))
    (some 0)
theorem jur {a0:TI} {a1:TI} {r} (h:f204 a0 a1=some r):qf pr (X pr) 204 [sl 1 qm a0,sl 1 qm a1]=some (.int .i64 r,false):=by
 unfold f204 at h
 obtain ⟨d28,h29,h⟩:=qa h
 rcases d28 with d30 | d31
 ·have wh29:=q6b a0 a1 h29
  dsimp only [qeq,qfl] at wh29
  obtain rfl:=Option.some.inj h
  refine qn (f:=c204) rfl rfl rfl (by first | rfl | simp only [go_sem,seval]) ?_
  simp only [go_sem,seval,c204,wh29]
  exact ⟨_,rfl⟩
 have wh29:=q6b a0 a1 h29
 dsimp only [qeq,qfl] at wh29
 rcases qb h with ⟨h32,h⟩ | ⟨h32,h⟩
 ·obtain rfl:=Option.some.inj h
  refine qn (f:=c204) rfl rfl rfl (by first | rfl | simp only [go_sem,seval]) ?_
  simp only [go_sem,seval,c204,wh29,h32]
  exact ⟨_,rfl⟩
 obtain rfl:=Option.some.inj h
 refine qn (f:=c204) rfl rfl rfl (by first | rfl | simp only [go_sem,seval]) ?_
 simp only [go_sem,seval,c204,wh29,h32]
 exact ⟨_,rfl⟩
noncomputable def qfc (a0:TI) (s0:Int):Option (Int ⊕ (Int ⊕ Int)):=
 cond (decide (s0 < ((a0.getD []).length:Int)))
  (qc (js (a0.getD []) s0) fun v10=>
  cond (decide (v10=0))
   (some (.inl (qg .i64 (s0 + 1))))
   (some (.inr (.inl v10))))
  (some (.inr (.inr s0)))
def qf9 (a0:TI) (s0:Int):ASt:=⟨[(3,.int .i64 0,false),(6,sl 1 qm a0,false),(7,.int .i64 ((a0.getD []).length:Int),false),(8,.int .i64 s0,false)],[]⟩
def qil (a0:TI):Int ⊕ Int→jb × ASt
 | .inl d=>(.ret,⟨[(2,.int .i64 d,false)],[]⟩)
 | .inr d=>(.exit 0,⟨[(3,.int .i64 0,false),(6,sl 1 qm a0,false),(7,.int .i64 ((a0.getD []).length:Int),false),(8,.int .i64 d,false),(9,.bool false,false)],[]⟩)
theorem jff (a0:TI) (s0:Int) (r) (h:qfc a0 s0=some r):jt pr qmk (qf9 a0) (qil a0) s0 r:=by
 unfold qfc at h
 rcases qb h with ⟨h9,h⟩ | ⟨h9,h⟩
 ·obtain ⟨v10,h11,h⟩:=qa h
  rcases qb h with ⟨h12,h⟩ | ⟨h12,h⟩
  ·cases h
   exact qw (by simp only [go_sem,seval,qmk,qf9,h9,qu h11,h12] <;> rfl) (Nat.le_refl _)
  cases h
  exact qh (by simp only [go_sem,seval,qmk,qf9,h9,qu h11,h12,qil] <;> rfl)
 cases h
 exact qh (by simp only [go_sem,seval,qmk,qf9,h9,qil] <;> rfl)
theorem q7a (a0:TI) {s0:Int} {d} (h:itO (qfc a0) s0=some d):X pr (.loop qmk) (qf9 a0 s0)=some (qil a0 d):=j9 (jff a0) (fun d=>by rcases d with d|d <;> (intro hh; cases hh)) h
noncomputable def f202 (a0:TI):Option Int:=
 qc (itO (qfc a0) 0) fun d13=>match d13 with
  | .inl d15=>
   some d15
  | .inr d16=>
   some 0
theorem jw5 {a0:TI} {r} (h:f202 a0=some r):qf pr (X pr) 202 [sl 1 qm a0]=some (.int .i64 r,false):=by
 unfold f202 at h
 obtain ⟨d13,h14,h⟩:=qa h
 rcases d13 with d15 | d16
 ·have wh14:=q7a a0 h14
  dsimp only [qf9,qil] at wh14
  obtain rfl:=Option.some.inj h
  refine qn (f:=c202) rfl rfl rfl (by first | rfl | simp only [go_sem,seval]) ?_
  simp only [go_sem,seval,c202,wh14]
  exact ⟨_,rfl⟩
 have wh14:=q7a a0 h14
 dsimp only [qf9,qil] at wh14
 obtain rfl:=Option.some.inj h
 refine qn (f:=c202) rfl rfl rfl (by first | rfl | simp only [go_sem,seval]) ?_
 simp only [go_sem,seval,c202,wh14]
 exact ⟨_,rfl⟩
noncomputable def qff (a0:TI) (a1:TI):Option Int:=
 qc (f203 ((a0.getD []).length:Int) ((a1.getD []).length:Int)) fun v1=>
 qc (f204 a0 a1) fun v3=>
 qc (f202 (some [v1,v3])) fun v5=>
 some v5
theorem qra (hp:qk) {a0:TI} {a1:TI} {r} (h:qff a0 a1=some r):jg pr (X pr) 163 [sl 1 qm a0,sl 1 qm a1] hp=some (.int .i64 r,false,hp):=by
 unfold qff at h
 obtain ⟨v1,h2,h⟩:=qa h
 have wh2:=q8r h2
 obtain ⟨v3,h4,h⟩:=qa h
 obtain ⟨v5,h6,h⟩:=qa h
 have wh6:qf pr (X pr) 202 [.list false 1 [.int .i64 v1,.int .i64 v3]]=some (.int .i64 v5,false):=jw5 h6
 have hr:v5=r:=Option.some.inj h
 subst hr
 rw [j8 (show pr.fns 163=some c163 from rfl) (by simp)]
 simp only [go_sem,seval,c163,wh2,jur h4,wh6] <;> rfl
noncomputable def qlv (a0:TTI) (a1:Int) (a2:Int) (s0:Int) (s1:Unit):Option (Unit ⊕ (Unit)):=
 cond (decide (a1 < s0))
  (qc (js (a0.getD []) s0) fun v49=>
  qc (js (a0.getD []) (qg .i64 (s0 - 1))) fun v51=>
  qc (qff v49 v51) fun v53=>
  cond (decide (v53 < 0))
   (none)
   (some (.inr ())))
  (some (.inr ()))
def qmu (a0:TTI) (a1:Int) (a2:Int) (s0:Int) (s1:Unit):ASt:=⟨[(0,sl 1 (sl 1 qm) a0,false),(1,.int .i64 a1,false),(2,.int .i64 a2,false),(3,.fn (.func 163) [] [],false),(8,.int .i64 s0,false),(9,.int .i64 s0,false)],[]⟩
def qlg (a0:TTI) (a1:Int) (a2:Int) (s0:Int) (d:Unit):jb × ASt:=(.exit 2,⟨[(0,sl 1 (sl 1 qm) a0,false),(1,.int .i64 a1,false),(2,.int .i64 a2,false),(3,.fn (.func 163) [] [],false),(8,.int .i64 s0,false),(9,.int .i64 s0,false),(34,.bool false,false)],[]⟩)
theorem jhf (a0:TTI) (a1:Int) (a2:Int) (s0:Int) (s1:Unit) (r) (h:qlv a0 a1 a2 s0 s1=some r):jt pr qpr (qmu a0 a1 a2 s0) (qlg a0 a1 a2 s0) s1 r:=by
 unfold qlv at h
 rcases qb h with ⟨h48,h⟩ | ⟨h48,h⟩
 ·obtain ⟨v49,h50,h⟩:=qa h
  obtain ⟨v51,h52,h⟩:=qa h
  obtain ⟨v53,h54,h⟩:=qa h
  have wh54:jg pr (X pr) 163 [sl 1 qm v49,sl 1 qm v51] []=some (.int .i64 v53,false,[]):=qra [] h54
  rcases qb h with ⟨h55,h⟩ | ⟨h55,h⟩
  ·cases h
  cases h
  exact qh (by simp only [go_sem,seval,qpr,qmu,h48,qu h50,qu h52,wh54,h55,qlg] <;> rfl)
 cases h
 exact qh (by simp only [go_sem,seval,qpr,qmu,h48,qlg] <;> rfl)
theorem ji1 (a0:TTI) (a1:Int) (a2:Int) (s0:Int) {s1:Unit} {d} (h:itO (qlv a0 a1 a2 s0) s1=some d):X pr (.loop qpr) (qmu a0 a1 a2 s0 s1)=some (qlg a0 a1 a2 s0 d):=j9 (jhf a0 a1 a2 s0) (fun d hh=>by cases hh) h
noncomputable def qex (a0:TTI) (a1:Int) (a2:Int) (s0:Int):Option (Int ⊕ (Int)):=
 cond (decide (s0 < a2))
  (qc (itO (qlv a0 a1 a2 s0) ()) fun d56=>
  some (.inl (qg .i64 (s0 + 1))))
  (some (.inr s0))
def qmx (a0:TTI) (a1:Int) (a2:Int) (s0:Int):ASt:=⟨[(0,sl 1 (sl 1 qm) a0,false),(1,.int .i64 a1,false),(2,.int .i64 a2,false),(3,.fn (.func 163) [] [],false),(8,.int .i64 s0,false)],[]⟩
def qrk (a0:TTI) (a1:Int) (a2:Int) (d:Int):jb × ASt:=(.exit 0,⟨[(0,sl 1 (sl 1 qm) a0,false),(1,.int .i64 a1,false),(2,.int .i64 a2,false),(3,.fn (.func 163) [] [],false),(8,.int .i64 d,false),(14,.bool false,false)],[]⟩)
theorem jgi (a0:TTI) (a1:Int) (a2:Int) (s0:Int) (r) (h:qex a0 a1 a2 s0=some r):jt pr qpg (qmx a0 a1 a2) (qrk a0 a1 a2) s0 r:=by
 unfold qex at h
 rcases qb h with ⟨h39,h⟩ | ⟨h39,h⟩
 ·obtain ⟨d56,h57,h⟩:=qa h
  have wh57:=ji1 a0 a1 a2 s0 h57
  dsimp only [qmu,qlg] at wh57
  cases h
  exact qw (by simp only [go_sem,seval,qpg,qmx,h39,wh57] <;> rfl) (Nat.le_refl _)
 cases h
 exact qh (by simp only [go_sem,seval,qpg,qmx,h39,qrk] <;> rfl)
theorem jil (a0:TTI) (a1:Int) (a2:Int) {s0:Int} {d} (h:itO (qex a0 a1 a2) s0=some d):X pr (.loop qpg) (qmx a0 a1 a2 s0)=some (qrk a0 a1 a2 d):=j9 (jgi a0 a1 a2) (fun d hh=>by cases hh) h
noncomputable def f222 (a0:TTI) (a1:Int) (a2:Int):Option Unit:=
 qc (itO (qex a0 a1 a2) (qg .i64 (a1 + 1))) fun d58=>
 some ()
theorem jv1 {a0:TTI} {a1:Int} {a2:Int} {r} (h:f222 a0 a1 a2=some r):qf pr (X pr) 222 [sl 1 (sl 1 qm) a0,.int .i64 a1,.int .i64 a2,.fn (.func 163) [] []]=some (.tup [],false):=by
 unfold f222 at h
 obtain ⟨d58,h59,h⟩:=qa h
 have wh59:=jil a0 a1 a2 h59
 dsimp only [qmx,qrk] at wh59
 obtain rfl:=Option.some.inj h
 refine qn (f:=c222) rfl rfl rfl (by first | rfl | simp only [go_sem,seval]) ?_
 simp only [go_sem,seval,c222,wh59]
 exact ⟨_,rfl⟩
noncomputable def f257 (a0:TTI) (a1:Int) (a2:Int) (c0_0:Int):Option ((Int × Int) × Int):=
 qc (js (a0.getD []) a2) fun v1=>
 qc (js (a0.getD []) a1) fun v3=>
 qc (qff v1 v3) fun v5=>
 cond (decide (v5 < 0))
  (some ((a2,a1),qg .i64 (c0_0 + 1)))
  (some ((a1,a2),c0_0))
theorem q81 {a0:TTI} {a1:Int} {a2:Int} {c0_0:Int} {r} (h:f257 a0 a1 a2 c0_0=some r):jg pr (X pr) 257 [sl 1 (sl 1 qm) a0,.int .i64 a1,.int .i64 a2,.ptr 0 0,.fn (.func 163) [] []] [.cells [(.int .i64 c0_0,false)]]=some (.tup [.int .i64 r.1.1,.int .i64 r.1.2],false,[.cells [(.int .i64 r.2,false)]]):=by
 unfold f257 at h
 obtain ⟨v1,h2,h⟩:=qa h
 obtain ⟨v3,h4,h⟩:=qa h
 obtain ⟨v5,h6,h⟩:=qa h
 have wh6:jg pr (X pr) 163 [sl 1 qm v1,sl 1 qm v3] [.cells [(.int .i64 c0_0,false)]]=some (.int .i64 v5,false,[.cells [(.int .i64 c0_0,false)]]):=qra [.cells [(.int .i64 c0_0,false)]] h6
 rcases qb h with ⟨h7,h⟩ | ⟨h7,h⟩
 ·have hr:((a2,a1),qg .i64 (c0_0 + 1))=r:=Option.some.inj h
  subst hr
  rw [j8 (show pr.fns 257=some c257 from rfl) (by simp)]
  simp only [go_sem,seval,c257,qu h2,qu h4,wh6,h7] <;> rfl
 have hr:((a1,a2),c0_0)=r:=Option.some.inj h
 subst hr
 rw [j8 (show pr.fns 257=some c257 from rfl) (by simp)]
 simp only [go_sem,seval,c257,qu h2,qu h4,wh6,h7] <;> rfl
noncomputable def f248 (a0:TTI) (a1:Int) (a2:Int) (a3:Int) (c0_0:Int):Option (Int × Int):=
 qc (f257 a0 a1 a2 c0_0) fun v1=>
 qc (f257 a0 v1.1.2 a3 v1.2) fun v3=>
 qc (f257 a0 v1.1.1 v3.1.1 v3.2) fun v5=>
 some (v5.1.2,v5.2)
theorem q94 {a0:TTI} {a1:Int} {a2:Int} {a3:Int} {c0_0:Int} {r} (h:f248 a0 a1 a2 a3 c0_0=some r):jg pr (X pr) 248 [sl 1 (sl 1 qm) a0,.int .i64 a1,.int .i64 a2,.int .i64 a3,.ptr 0 0,.fn (.func 163) [] []] [.cells [(.int .i64 c0_0,false)]]=some (.int .i64 r.1,false,[.cells [(.int .i64 r.2,false)]]):=by
 unfold f248 at h
 obtain ⟨v1,h2,h⟩:=qa h
 have wh2:jg pr (X pr) 257 [sl 1 (sl 1 qm) a0,.int .i64 a1,.int .i64 a2,.ptr 0 0,.fn (.func 163) [] []] [.cells [(.int .i64 c0_0,false)]]=some (.tup [.int .i64 v1.1.1,.int .i64 v1.1.2],false,[.cells [(.int .i64 v1.2,false)]]):=q81 h2
 obtain ⟨v3,h4,h⟩:=qa h
 have wh4:jg pr (X pr) 257 [sl 1 (sl 1 qm) a0,.int .i64 v1.1.2,.int .i64 a3,.ptr 0 0,.fn (.func 163) [] []] [.cells [(.int .i64 v1.2,false)]]=some (.tup [.int .i64 v3.1.1,.int .i64 v3.1.2],false,[.cells [(.int .i64 v3.2,false)]]):=q81 h4
 obtain ⟨v5,h6,h⟩:=qa h
 have wh6:jg pr (X pr) 257 [sl 1 (sl 1 qm) a0,.int .i64 v1.1.1,.int .i64 v3.1.1,.ptr 0 0,.fn (.func 163) [] []] [.cells [(.int .i64 v3.2,false)]]=some (.tup [.int .i64 v5.1.1,.int .i64 v5.1.2],false,[.cells [(.int .i64 v5.2,false)]]):=q81 h6
 have hr:(v5.1.2,v5.2)=r:=Option.some.inj h
 subst hr
 rw [j8 (show pr.fns 248=some c248 from rfl) (by simp)]
 simp only [go_sem,seval,c248,wh2,wh4,wh6] <;> rfl
noncomputable def f247 (a0:TTI) (a1:Int) (c0_0:Int):Option (Int × Int):=
 qc (f248 a0 (qg .i64 (a1 - 1)) a1 (qg .i64 (a1 + 1)) c0_0) fun v1=>
 some (v1.1,v1.2)
theorem q85 {a0:TTI} {a1:Int} {c0_0:Int} {r} (h:f247 a0 a1 c0_0=some r):jg pr (X pr) 247 [sl 1 (sl 1 qm) a0,.int .i64 a1,.ptr 0 0,.fn (.func 163) [] []] [.cells [(.int .i64 c0_0,false)]]=some (.int .i64 r.1,false,[.cells [(.int .i64 r.2,false)]]):=by
 unfold f247 at h
 obtain ⟨v1,h2,h⟩:=qa h
 have wh2:jg pr (X pr) 248 [sl 1 (sl 1 qm) a0,.int .i64 (qg .i64 (a1 - 1)),.int .i64 a1,.int .i64 (qg .i64 (a1 + 1)),.ptr 0 0,.fn (.func 163) [] []] [.cells [(.int .i64 c0_0,false)]]=some (.int .i64 v1.1,false,[.cells [(.int .i64 v1.2,false)]]):=q94 h2
 have hr:(v1.1,v1.2)=r:=Option.some.inj h
 subst hr
 rw [j8 (show pr.fns 247=some c247 from rfl) (by simp)]
 simp only [go_sem,seval,c247,wh2] <;> rfl
noncomputable def f225 (a0:TTI) (a1:Int) (a2:Int):Option (Int × Int):=
 qc (qc7 .i64 (qg .i64 (a2 - a1)) 4) fun v1=>
 cond (decide (8≤(qg .i64 (a2 - a1))))
  (cond (decide (50≤(qg .i64 (a2 - a1))))
   (qc (f247 a0 (qg .i64 (a1 + (qg .i64 (v1 * 1)))) 0) fun v5=>
   qc (f247 a0 (qg .i64 (a1 + (qg .i64 (v1 * 2)))) v5.2) fun v7=>
   qc (f247 a0 (qg .i64 (a1 + (qg .i64 (v1 * 3)))) v7.2) fun v9=>
   qc (f248 a0 v5.1 v7.1 v9.1 v9.2) fun v11=>
   cond (decide (v11.2=0))
    (some (v11.1,1))
    (cond (decide (v11.2=12))
     (some (v11.1,2))
     (some (v11.1,0))))
   (qc (f248 a0 (qg .i64 (a1 + (qg .i64 (v1 * 1)))) (qg .i64 (a1 + (qg .i64 (v1 * 2)))) (qg .i64 (a1 + (qg .i64 (v1 * 3)))) 0) fun v15=>
   cond (decide (v15.2=0))
    (some (v15.1,1))
    (cond (decide (v15.2=12))
     (some (v15.1,2))
     (some (v15.1,0)))))
  (some (qg .i64 (a1 + (qg .i64 (v1 * 2))),1))
theorem jvc {a0:TTI} {a1:Int} {a2:Int} {r} (h:f225 a0 a1 a2=some r):qf pr (X pr) 225 [sl 1 (sl 1 qm) a0,.int .i64 a1,.int .i64 a2,.fn (.func 163) [] []]=some (.tup [.int .i64 r.1,.int .i64 r.2],false):=by
 unfold f225 at h
 obtain ⟨v1,h2,h⟩:=qa h
 rcases qb h with ⟨h3,h⟩ | ⟨h3,h⟩
 ·rcases qb h with ⟨h4,h⟩ | ⟨h4,h⟩
  ·obtain ⟨v5,h6,h⟩:=qa h
   have wh6:jg pr (X pr) 247 [sl 1 (sl 1 qm) a0,.int .i64 (qg .i64 (a1 + (qg .i64 (v1 * 1)))),.ptr 0 0,.fn (.func 163) [] []] [.cells [(.int .i64 0,false)]]=some (.int .i64 v5.1,false,[.cells [(.int .i64 v5.2,false)]]):=q85 h6
   obtain ⟨v7,h8,h⟩:=qa h
   have wh8:jg pr (X pr) 247 [sl 1 (sl 1 qm) a0,.int .i64 (qg .i64 (a1 + (qg .i64 (v1 * 2)))),.ptr 0 0,.fn (.func 163) [] []] [.cells [(.int .i64 v5.2,false)]]=some (.int .i64 v7.1,false,[.cells [(.int .i64 v7.2,false)]]):=q85 h8
   obtain ⟨v9,h10,h⟩:=qa h
   have wh10:jg pr (X pr) 247 [sl 1 (sl 1 qm) a0,.int .i64 (qg .i64 (a1 + (qg .i64 (v1 * 3)))),.ptr 0 0,.fn (.func 163) [] []] [.cells [(.int .i64 v7.2,false)]]=some (.int .i64 v9.1,false,[.cells [(.int .i64 v9.2,false)]]):=q85 h10
   obtain ⟨v11,h12,h⟩:=qa h
   have wh12:jg pr (X pr) 248 [sl 1 (sl 1 qm) a0,.int .i64 v5.1,.int .i64 v7.1,.int .i64 v9.1,.ptr 0 0,.fn (.func 163) [] []] [.cells [(.int .i64 v9.2,false)]]=some (.int .i64 v11.1,false,[.cells [(.int .i64 v11.2,false)]]):=q94 h12
   rcases qb h with ⟨h13,h⟩ | ⟨h13,h⟩
   ·obtain rfl:=Option.some.inj h
    refine qn (f:=c225) rfl rfl rfl (by first | rfl | simp only [go_sem,seval]) ?_
    simp only [go_sem,seval,c225,yt h2,h3,h4,wh6,wh8,wh10,wh12,h13]
    exact ⟨_,rfl⟩
   rcases qb h with ⟨h14,h⟩ | ⟨h14,h⟩
   ·obtain rfl:=Option.some.inj h
    refine qn (f:=c225) rfl rfl rfl (by first | rfl | simp only [go_sem,seval]) ?_
    simp only [go_sem,seval,c225,yt h2,h3,h4,wh6,wh8,wh10,wh12,h13,h14]
    exact ⟨_,rfl⟩
   obtain rfl:=Option.some.inj h
   refine qn (f:=c225) rfl rfl rfl (by first | rfl | simp only [go_sem,seval]) ?_
   simp only [go_sem,seval,c225,yt h2,h3,h4,wh6,wh8,wh10,wh12,h13,h14]
   exact ⟨_,rfl⟩
  obtain ⟨v15,h16,h⟩:=qa h
  have wh16:jg pr (X pr) 248 [sl 1 (sl 1 qm) a0,.int .i64 (qg .i64 (a1 + (qg .i64 (v1 * 1)))),.int .i64 (qg .i64 (a1 + (qg .i64 (v1 * 2)))),.int .i64 (qg .i64 (a1 + (qg .i64 (v1 * 3)))),.ptr 0 0,.fn (.func 163) [] []] [.cells [(.int .i64 0,false)]]=some (.int .i64 v15.1,false,[.cells [(.int .i64 v15.2,false)]]):=q94 h16
  rcases qb h with ⟨h17,h⟩ | ⟨h17,h⟩
  ·obtain rfl:=Option.some.inj h
   refine qn (f:=c225) rfl rfl rfl (by first | rfl | simp only [go_sem,seval]) ?_
   simp only [go_sem,seval,c225,yt h2,h3,h4,wh16,h17]
   exact ⟨_,rfl⟩
  rcases qb h with ⟨h18,h⟩ | ⟨h18,h⟩
  ·obtain rfl:=Option.some.inj h
   refine qn (f:=c225) rfl rfl rfl (by first | rfl | simp only [go_sem,seval]) ?_
   simp only [go_sem,seval,c225,yt h2,h3,h4,wh16,h17,h18]
   exact ⟨_,rfl⟩
  obtain rfl:=Option.some.inj h
  refine qn (f:=c225) rfl rfl rfl (by first | rfl | simp only [go_sem,seval]) ?_
  simp only [go_sem,seval,c225,yt h2,h3,h4,wh16,h17,h18]
  exact ⟨_,rfl⟩
 obtain rfl:=Option.some.inj h
 refine qn (f:=c225) rfl rfl rfl (by first | rfl | simp only [go_sem,seval]) ?_
 simp only [go_sem,seval,c225,yt h2,h3]
 exact ⟨_,rfl⟩
noncomputable def qly (a0:TTI) (a1:Int) (a2:Int):Option (Option (Int) ⊕ (Int)):=
 cond (decide ((qg .i64 (a1 + 1)) < a2))
  (qc (js (a0.getD []) (qg .i64 (a1 + 1))) fun v114=>
  qc (js (a0.getD []) (qg .i64 ((qg .i64 (a1 + 1)) - 1))) fun v116=>
  qc (qff v114 v116) fun v118=>
  cond (decide (v118 < 0))
   (some (.inr (qg .i64 (a1 + 1))))
   (some (.inl (some (qg .i64 ((qg .i64 (a1 + 1)) + 1))))))
  (some (.inr (qg .i64 (a1 + 1))))
noncomputable def qfr (a0:TTI) (a1:Int) (a2:Int) (s1:Int):Option (Option (Int) ⊕ (Int)):=
 cond (decide (s1 < a2))
  (qc (js (a0.getD []) s1) fun v106=>
  qc (js (a0.getD []) (qg .i64 (s1 - 1))) fun v108=>
  qc (qff v106 v108) fun v110=>
  cond (decide (v110 < 0))
   (some (.inr s1))
   (some (.inl (some (qg .i64 (s1 + 1))))))
  (some (.inr s1))
noncomputable def qjv (a0:TTI) (a1:Int) (a2:Int):Option (Int)→Option (Option (Int) ⊕ (Int))
 | none=>qly a0 a1 a2
 | some x=>qfr a0 a1 a2 x
def qdj (a0:TTI) (a1:Int) (a2:Int) (s1:Int):ASt:=⟨[(0,sl 1 (sl 1 qm) a0,false),(1,.int .i64 a1,false),(2,.int .i64 a2,false),(3,.fn (.func 163) [] [],false),(9,.int .i64 s1,false),(10,.int .i64 0,false)],[]⟩
def qca (a0:TTI) (a1:Int) (a2:Int):Option (Int)→ASt
 | none=>⟨[(0,sl 1 (sl 1 qm) a0,false),(1,.int .i64 a1,false),(2,.int .i64 a2,false),(3,.fn (.func 163) [] [],false),(9,.int .i64 (qg .i64 (a1 + 1)),false),(10,.int .i64 0,false),(16,.bool true,false)],[]⟩
 | some x=>qdj a0 a1 a2 x
def qdp (a0:TTI) (a1:Int) (a2:Int) (d:Int):jb × ASt:=(.exit 2,⟨[(0,sl 1 (sl 1 qm) a0,false),(1,.int .i64 a1,false),(2,.int .i64 a2,false),(3,.fn (.func 163) [] [],false),(9,.int .i64 d,false),(10,.int .i64 0,false),(36,.bool false,false)],[]⟩)
theorem jdc (a0:TTI) (a1:Int) (a2:Int) (r) (h:qly a0 a1 a2=some r):jt pr qde (qca a0 a1 a2) (qdp a0 a1 a2) none r:=by
 unfold qly at h
 rcases qb h with ⟨h113,h⟩ | ⟨h113,h⟩
 ·obtain ⟨v114,h115,h⟩:=qa h
  obtain ⟨v116,h117,h⟩:=qa h
  obtain ⟨v118,h119,h⟩:=qa h
  have wh119:jg pr (X pr) 163 [sl 1 qm v114,sl 1 qm v116] []=some (.int .i64 v118,false,[]):=qra [] h119
  rcases qb h with ⟨h120,h⟩ | ⟨h120,h⟩
  ·cases h
   exact qh (by simp only [go_sem,seval,qde,qca,qdj,h113,qu h115,qu h117,wh119,h120,qdp] <;> rfl)
  cases h
  exact qw (by simp only [go_sem,seval,qde,qca,qdj,h113,qu h115,qu h117,wh119,h120] <;> rfl) (Nat.le_refl _)
 cases h
 exact qh (by simp only [go_sem,seval,qde,qca,qdj,h113,qdp] <;> rfl)
theorem jcn (a0:TTI) (a1:Int) (a2:Int) (s1:Int) (r) (h:qfr a0 a1 a2 s1=some r):jt pr qde (qca a0 a1 a2) (qdp a0 a1 a2) (some s1) r:=by
 unfold qfr at h
 rcases qb h with ⟨h105,h⟩ | ⟨h105,h⟩
 ·obtain ⟨v106,h107,h⟩:=qa h
  obtain ⟨v108,h109,h⟩:=qa h
  obtain ⟨v110,h111,h⟩:=qa h
  have wh111:jg pr (X pr) 163 [sl 1 qm v106,sl 1 qm v108] []=some (.int .i64 v110,false,[]):=qra [] h111
  rcases qb h with ⟨h112,h⟩ | ⟨h112,h⟩
  ·cases h
   exact qh (by simp only [go_sem,seval,qde,qca,qdj,h105,qu h107,qu h109,wh111,h112,qdp] <;> rfl)
  cases h
  exact qw (by simp only [go_sem,seval,qde,qca,qdj,h105,qu h107,qu h109,wh111,h112] <;> rfl) (Nat.le_refl _)
 cases h
 exact qh (by simp only [go_sem,seval,qde,qca,qdj,h105,qdp] <;> rfl)
theorem jiy (a0:TTI) (a1:Int) (a2:Int):∀ (x:Option (Int)) (r) (h:qjv a0 a1 a2 x=some r),jt pr qde (qca a0 a1 a2) (qdp a0 a1 a2) x r
 | none,r,h=>jdc a0 a1 a2 r h
 | some x,r,h=>jcn a0 a1 a2 x r h
theorem jgn (a0:TTI) (a1:Int) (a2:Int) {s1:Option (Int)} {d} (h:itO (qjv a0 a1 a2) s1=some d):X pr (.loop qde) (qca a0 a1 a2 s1)=some (qdp a0 a1 a2 d):=j9 (jiy a0 a1 a2) (fun d hh=>by cases hh) h
noncomputable def qmt (a0:TTI) (a1:Int) (a2:Int) (s0:Unit):Option (Unit ⊕ (Bool)):=
 qc (itO (qjv a0 a1 a2) none) fun d121=>
 cond (decide (d121=a2))
  (some (.inr true))
  (cond (decide ((qg .i64 (a2 - a1)) < 50))
   (some (.inr false))
   (qc (js (a0.getD []) (qg .i64 (d121 - 1))) fun v125=>
   qc (js (a0.getD []) d121) fun v127=>
   none))
def qli (a0:TTI) (a1:Int) (a2:Int) (s0:Unit):ASt:=⟨[(0,sl 1 (sl 1 qm) a0,false),(1,.int .i64 a1,false),(2,.int .i64 a2,false),(3,.fn (.func 163) [] [],false),(9,.int .i64 (qg .i64 (a1 + 1)),false),(10,.int .i64 0,false)],[]⟩
def ql1 (a0:TTI) (a1:Int) (a2:Int) (d:Bool):jb × ASt:=(.ret,⟨[(8,.bool d,false)],[]⟩)
theorem jf6 (a0:TTI) (a1:Int) (a2:Int) (s0:Unit) (r) (h:qmt a0 a1 a2 s0=some r):jt pr qpf (qli a0 a1 a2) (ql1 a0 a1 a2) s0 r:=by
 unfold qmt at h
 obtain ⟨d121,h122,h⟩:=qa h
 have wh122:=jgn a0 a1 a2 h122
 dsimp only [qca,qdj,qdp] at wh122
 rcases qb h with ⟨h123,h⟩ | ⟨h123,h⟩
 ·cases h
  exact qh (by simp only [go_sem,seval,qpf,qli,wh122,h123,ql1] <;> rfl)
 rcases qb h with ⟨h124,h⟩ | ⟨h124,h⟩
 ·cases h
  exact qh (by simp only [go_sem,seval,qpf,qli,wh122,h123,h124,ql1] <;> rfl)
 obtain ⟨v125,h126,h⟩:=qa h
 obtain ⟨v127,h128,h⟩:=qa h
 cases h
theorem jia (a0:TTI) (a1:Int) (a2:Int) {s0:Unit} {d} (h:itO (qmt a0 a1 a2) s0=some d):X pr (.loop qpf) (qli a0 a1 a2 s0)=some (ql1 a0 a1 a2 d):=j9 (jf6 a0 a1 a2) (fun d hh=>by cases hh) h
noncomputable def f227 (a0:TTI) (a1:Int) (a2:Int):Option Bool:=
 qc (itO (qmt a0 a1 a2) ()) fun d129=>
 some d129
theorem jwz {a0:TTI} {a1:Int} {a2:Int} {r} (h:f227 a0 a1 a2=some r):qf pr (X pr) 227 [sl 1 (sl 1 qm) a0,.int .i64 a1,.int .i64 a2,.fn (.func 163) [] []]=some (.bool r,false):=by
 unfold f227 at h
 obtain ⟨d129,h130,h⟩:=qa h
 have wh130:=jia a0 a1 a2 h130
 dsimp only [qli,ql1] at wh130
 obtain rfl:=Option.some.inj h
 refine qn (f:=c227) rfl rfl rfl (by first | rfl | simp only [go_sem,seval]) ?_
 simp only [go_sem,seval,c227,wh130]
 exact ⟨_,rfl⟩
noncomputable def f231 (a0:Int):Option Int:=
 cond (decide (4294967296≤a0))
  (none)
  (cond (decide (65536≤a0))
   (none)
   (cond (decide (256≤a0))
    (none)
    (qc (js ([0,1,2,2,3,3,3,3,4,4,4,4,4,4,4,4,5,5,5,5,5,5,5,5,5,5,5,5,5,5,5,5,6,6,6,6,6,6,6,6,6,6,6,6,6,6,6,6,6,6,6,6,6,6,6,6,6,6,6,6,6,6,6,6,7,7,7,7,7,7,7,7,7,7,7,7,7,7,7,7,7,7,7,7,7,7,7,7,7,7,7,7,7,7,7,7,7,7,7,7,7,7,7,7,7,7,7,7,7,7,7,7,7,7,7,7,7,7,7,7,7,7,7,7,7,7,7,7,8,8,8,8,8,8,8,8,8,8,8,8,8,8,8,8,8,8,8,8,8,8,8,8,8,8,8,8,8,8,8,8,8,8,8,8,8,8,8,8,8,8,8,8,8,8,8,8,8,8,8,8,8,8,8,8,8,8,8,8,8,8,8,8,8,8,8,8,8,8,8,8,8,8,8,8,8,8,8,8,8,8,8,8,8,8,8,8,8,8,8,8,8,8,8,8,8,8,8,8,8,8,8,8,8,8,8,8,8,8,8,8,8,8,8,8,8,8,8,8,8,8,8,8,8,8,8,8]:List UInt8) (qg .u8 a0)) fun v4=>
    some (qg .i64 (0 + (qg .i64 (v4.toNat:Int)))))))
theorem jx1 {a0:Int} {r} (h:f231 a0=some r):qf pr (X pr) 231 [.int .u64 a0]=some (.int .i64 r,false):=by
 unfold f231 at h
 rcases qb h with ⟨h1,h⟩ | ⟨h1,h⟩
 ·cases h
 rcases qb h with ⟨h2,h⟩ | ⟨h2,h⟩
 ·cases h
 rcases qb h with ⟨h3,h⟩ | ⟨h3,h⟩
 ·cases h
 obtain ⟨v4,h5,h⟩:=qa h
 obtain rfl:=Option.some.inj h
 refine qn (f:=c231) rfl rfl rfl (by first | rfl | simp only [go_sem,seval]) ?_
 simp only [go_sem,seval,c231,h1,h2,h3,jx h5]
 exact ⟨_,rfl⟩
noncomputable def f201 (a0:Int):Option Int:=
 qc (f231 a0) fun v1=>
 some v1
theorem ju2 {a0:Int} {r} (h:f201 a0=some r):qf pr (X pr) 201 [.int .u64 a0]=some (.int .i64 r,false):=by
 unfold f201 at h
 obtain ⟨v1,h2,h⟩:=qa h
 have wh2:=jx1 h2
 obtain rfl:=Option.some.inj h
 refine qn (f:=c201) rfl rfl rfl (by first | rfl | simp only [go_sem,seval]) ?_
 simp only [go_sem,seval,c201,wh2]
 exact ⟨_,rfl⟩
noncomputable def qgo (a0:TTI) (a1:Int) (a2:Int) (a3:Int) (s0:Unit):Option (Unit ⊕ (Unit ⊕ Int)):=
 cond (decide ((qg .i64 (a2 - a1))≤12))
  (qc (f222 a0 a1 a2) fun v29=>
  some (.inr (.inl ())))
  (cond (decide (a3=0))
   (none)
   (qc (f225 a0 a1 a2) fun v32=>
   cond (decide (v32.2=2))
    (none)
    (cond (decide (v32.2=1))
     (qc (f227 a0 a1 a2) fun v36=>
     cond v36
      (some (.inr (.inr v32.1)))
      (cond (decide (0 < a1))
       (qc (js (a0.getD []) (qg .i64 (a1 - 1))) fun v40=>
       qc (js (a0.getD []) v32.1) fun v42=>
       qc (qff v40 v42) fun v44=>
       cond (decide (v44 < 0))
        (none)
        (none))
       (none)))
     (cond (decide (0 < a1))
      (qc (js (a0.getD []) (qg .i64 (a1 - 1))) fun v48=>
      qc (js (a0.getD []) v32.1) fun v50=>
      qc (qff v48 v50) fun v52=>
      cond (decide (v52 < 0))
       (none)
       (none))
      (none)))))
def qio (a0:TTI) (a1:Int) (a2:Int) (a3:Int) (s0:Unit):ASt:=⟨[(0,sl 1 (sl 1 qm) a0,false),(1,.int .i64 a1,false),(2,.int .i64 a2,false),(3,.int .i64 a3,false),(4,.fn (.func 163) [] [],false),(10,.bool true,false),(11,.bool true,false)],[]⟩
def qiu (a0:TTI) (a1:Int) (a2:Int) (a3:Int):Unit ⊕ Int→jb × ASt
 | .inl d=>(.ret,⟨[],[]⟩)
 | .inr d=>(.ret,⟨[(0,sl 1 (sl 1 qm) a0,false),(1,.int .i64 a1,false),(2,.int .i64 a2,false),(3,.int .i64 a3,false),(4,.fn (.func 163) [] [],false),(10,.bool true,false),(11,.bool true,false),(12,.int .i64 (qg .i64 (a2 - a1)),false),(13,.int .i64 d,false),(80,.bool true,false)],[]⟩)
theorem jfx (a0:TTI) (a1:Int) (a2:Int) (a3:Int) (s0:Unit) (r) (h:qgo a0 a1 a2 a3 s0=some r):jt pr qp9 (qio a0 a1 a2 a3) (qiu a0 a1 a2 a3) s0 r:=by
 unfold qgo at h
 rcases qb h with ⟨h28,h⟩ | ⟨h28,h⟩
 ·obtain ⟨v29,h30,h⟩:=qa h
  have wh30:qf pr (X pr) 222 [sl 1 (sl 1 qm) a0,.int .i64 a1,.int .i64 a2,.fn (.func 163) [] []]=some (.tup [],false):=jv1 h30
  cases h
  exact qh (by simp only [go_sem,seval,qp9,qio,h28,wh30,qiu] <;> rfl)
 rcases qb h with ⟨h31,h⟩ | ⟨h31,h⟩
 ·cases h
 obtain ⟨v32,h33,h⟩:=qa h
 have wh33:qf pr (X pr) 225 [sl 1 (sl 1 qm) a0,.int .i64 a1,.int .i64 a2,.fn (.func 163) [] []]=some (.tup [.int .i64 v32.1,.int .i64 v32.2],false):=jvc h33
 rcases qb h with ⟨h34,h⟩ | ⟨h34,h⟩
 ·cases h
 rcases qb h with ⟨h35,h⟩ | ⟨h35,h⟩
 ·obtain ⟨v36,h37,h⟩:=qa h
  have wh37:qf pr (X pr) 227 [sl 1 (sl 1 qm) a0,.int .i64 a1,.int .i64 a2,.fn (.func 163) [] []]=some (.bool v36,false):=jwz h37
  rcases qb h with ⟨h38,h⟩ | ⟨h38,h⟩
  ·cases h
   exact qh (by simp only [go_sem,seval,qp9,qio,h28,h31,wh33,h34,h35,wh37,h38,qiu] <;> rfl)
  rcases qb h with ⟨h39,h⟩ | ⟨h39,h⟩
  ·obtain ⟨v40,h41,h⟩:=qa h
   obtain ⟨v42,h43,h⟩:=qa h
   obtain ⟨v44,h45,h⟩:=qa h
   have wh45:jg pr (X pr) 163 [sl 1 qm v40,sl 1 qm v42] []=some (.int .i64 v44,false,[]):=qra [] h45
   rcases qb h with ⟨h46,h⟩ | ⟨h46,h⟩
   ·cases h
   cases h
  cases h
 rcases qb h with ⟨h47,h⟩ | ⟨h47,h⟩
 ·obtain ⟨v48,h49,h⟩:=qa h
  obtain ⟨v50,h51,h⟩:=qa h
  obtain ⟨v52,h53,h⟩:=qa h
  have wh53:jg pr (X pr) 163 [sl 1 qm v48,sl 1 qm v50] []=some (.int .i64 v52,false,[]):=qra [] h53
  rcases qb h with ⟨h54,h⟩ | ⟨h54,h⟩
  ·cases h
  cases h
 cases h
theorem q7i (a0:TTI) (a1:Int) (a2:Int) (a3:Int) {s0:Unit} {d} (h:itO (qgo a0 a1 a2 a3) s0=some d):X pr (.loop qp9) (qio a0 a1 a2 a3 s0)=some (qiu a0 a1 a2 a3 d):=j9 (jfx a0 a1 a2 a3) (fun d=>by rcases d with d|d <;> (intro hh; cases hh)) h
noncomputable def f200 (a0:TTI) (a1:Int) (a2:Int) (a3:Int):Option Unit:=
 qc (itO (qgo a0 a1 a2 a3) ()) fun d55=>match d55 with
  | .inl d57=>
   some ()
  | .inr d58=>
   some ()
theorem jxr {a0:TTI} {a1:Int} {a2:Int} {a3:Int} {r} (h:f200 a0 a1 a2 a3=some r):qf pr (X pr) 200 [sl 1 (sl 1 qm) a0,.int .i64 a1,.int .i64 a2,.int .i64 a3,.fn (.func 163) [] []]=some (.tup [],false):=by
 unfold f200 at h
 obtain ⟨d55,h56,h⟩:=qa h
 rcases d55 with d57 | d58
 ·have wh56:=q7i a0 a1 a2 a3 h56
  dsimp only [qio,qiu] at wh56
  obtain rfl:=Option.some.inj h
  refine qn (f:=c200) rfl rfl rfl (by first | rfl | simp only [go_sem,seval]) ?_
  simp only [go_sem,seval,c200,wh56]
  exact ⟨_,rfl⟩
 have wh56:=q7i a0 a1 a2 a3 h56
 dsimp only [qio,qiu] at wh56
 obtain rfl:=Option.some.inj h
 refine qn (f:=c200) rfl rfl rfl (by first | rfl | simp only [go_sem,seval]) ?_
 simp only [go_sem,seval,c200,wh56]
 exact ⟨_,rfl⟩
noncomputable def f162 (a0:TTI):Option Unit:=
 qc (f201 (qg .u64 ((a0.getD []).length:Int))) fun v1=>
 qc (f200 a0 0 ((a0.getD []).length:Int) v1) fun v3=>
 some ()
theorem jxc {a0:TTI} {r} (h:f162 a0=some r):qf pr (X pr) 162 [sl 1 (sl 1 qm) a0,.fn (.func 163) [] []]=some (.tup [],false):=by
 unfold f162 at h
 obtain ⟨v1,h2,h⟩:=qa h
 have wh2:=ju2 h2
 obtain ⟨v3,h4,h⟩:=qa h
 have wh4:qf pr (X pr) 200 [sl 1 (sl 1 qm) a0,.int .i64 0,.int .i64 ((a0.getD []).length:Int),.int .i64 v1,.fn (.func 163) [] []]=some (.tup [],false):=jxr h4
 obtain rfl:=Option.some.inj h
 refine qn (f:=c162) rfl rfl rfl (by first | rfl | simp only [go_sem,seval]) ?_
 simp only [go_sem,seval,c162,wh2,wh4]
 exact ⟨_,rfl⟩
end Go.Z
