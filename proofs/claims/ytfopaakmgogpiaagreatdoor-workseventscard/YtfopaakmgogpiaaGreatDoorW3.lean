/- Chapter 10. -/
import Derived.Test.YtfopaakmgogpiaaGreatDoorW1
import Derived.Test.YtfopaakmgogpiaaGreatDoorAbsL
import Derived.Test.YtfopaakmgogpiaaGreatDoorCA
set_option linter.unusedVariables false
set_option linter.unusedSimpArgs false
set_option maxRecDepth 100000
set_option maxHeartbeats 4000000
namespace Go.Z
open Go Go.Abs Go.W
noncomputable def qz9 (a0:GReg) (a1:List UInt8) (s0:Int):Option (Int ⊕ (Int ⊕ Int)):=
 cond (decide (s0 < ((a0.units.getD []).length:Int)))
  (qa (qw (a0.units.getD []) s0) fun v10=>
  cond (decide (v10.name=a1))
   (some (.inr (.inl s0)))
   (some (.inl (qe .i64 (s0 + 1)))))
  (some (.inr (.inr s0)))
def qrm (a0:GReg) (a1:List UInt8) (s0:Int):ASt:=⟨[(1,.str a1,false),(2,.vptr (aR a0),false),(5,Iv s0,false)],[]⟩
def qrb (a0:GReg) (a1:List UInt8):Int ⊕ Int→jd × ASt
 | .inl d=>(.ret,⟨[(4,Iv d,false)],[]⟩)
 | .inr d=>(.exit 0,⟨[(1,.str a1,false),(2,.vptr (aR a0),false),(5,Iv d,false),(10,.bool false,false)],[]⟩)
theorem jwh (a0:GReg) (a1:List UInt8) (s0:Int) (r) (h:qz9 a0 a1 s0=some r):jy pr qub (qrm a0 a1) (qrb a0 a1) s0 r:=by
 unfold qz9 at h
 repeat' first | (replace h:=qb h; obtain ⟨d,g,h⟩:=h) | (replace h:=qd h; rcases h with ⟨g,h⟩ | ⟨g,h⟩) | fail
 all_goals (cases h <;> (first | (refine jb ?_; simp only [go_sem,seval,qub,qrm,qv,qrb,*] <;> rfl) | (refine js ?_; simp only [go_sem,seval,qub,qrm,qv,qrb,*] <;> rfl)))
theorem j08 (a0:GReg) (a1:List UInt8) {s0:Int} {d} (h:itO (qz9 a0 a1) s0=some d):X pr (.loop qub) (qrm a0 a1 s0)=some (qrb a0 a1 d):=zf (jwh a0 a1) (fun d=>by rcases d with d|d <;> (intro hh; cases hh)) h
noncomputable def f27 (a0:GReg) (a1:List UInt8):Option Int:=
 qa (itO (qz9 a0 a1) 0) fun d13=>match d13 with
  | .inl d15=>
   some d15
  | .inr d16=>
   some (-1)
theorem W27 {a0:GReg} {a1:List UInt8} {r} (h:f27 a0 a1=some r):qc pr (X pr) 27 [aR a0,.str a1]=some (Iv r,false):=by
 unfold f27 at h
 refine zg c27 ?_
 repeat' first | (replace h:=qb h; obtain ⟨d,g,h⟩:=h; with_reducible first | (replace g:=j08 a0 a1 g; rcases d with d | d <;> dsimp only [qrm,qrb,zi] at g h) | skip) | (replace h:=qd h; rcases h with ⟨g,h⟩ | ⟨g,h⟩) | fail
 all_goals (cases h <;> (simp only [go_sem,seval,c27,*]; exact ⟨_,rfl⟩))
noncomputable def qzz (a0:GReg) (a1:List UInt8) (s0:Int):Option (Int ⊕ (Int ⊕ Int)):=
 cond (decide (s0 < ((a0.lots.getD []).length:Int)))
  (qa (qw (a0.lots.getD []) s0) fun v10=>
  cond (decide (v10.name=a1))
   (some (.inr (.inl s0)))
   (some (.inl (qe .i64 (s0 + 1)))))
  (some (.inr (.inr s0)))
def qpo (a0:GReg) (a1:List UInt8) (s0:Int):ASt:=⟨[(1,.str a1,false),(2,.vptr (aR a0),false),(5,Iv s0,false)],[]⟩
def qot (a0:GReg) (a1:List UInt8):Int ⊕ Int→jd × ASt
 | .inl d=>(.ret,⟨[(4,Iv d,false)],[]⟩)
 | .inr d=>(.exit 0,⟨[(1,.str a1,false),(2,.vptr (aR a0),false),(5,Iv d,false),(10,.bool false,false)],[]⟩)
theorem jy1 (a0:GReg) (a1:List UInt8) (s0:Int) (r) (h:qzz a0 a1 s0=some r):jy pr qwr (qpo a0 a1) (qot a0 a1) s0 r:=by
 unfold qzz at h
 repeat' first | (replace h:=qb h; obtain ⟨d,g,h⟩:=h) | (replace h:=qd h; rcases h with ⟨g,h⟩ | ⟨g,h⟩) | fail
 all_goals (cases h <;> (first | (refine jb ?_; simp only [go_sem,seval,qwr,qpo,qv,qot,*] <;> rfl) | (refine js ?_; simp only [go_sem,seval,qwr,qpo,qv,qot,*] <;> rfl)))
theorem j0i (a0:GReg) (a1:List UInt8) {s0:Int} {d} (h:itO (qzz a0 a1) s0=some d):X pr (.loop qwr) (qpo a0 a1 s0)=some (qot a0 a1 d):=zf (jy1 a0 a1) (fun d=>by rcases d with d|d <;> (intro hh; cases hh)) h
noncomputable def f28 (a0:GReg) (a1:List UInt8):Option Int:=
 qa (itO (qzz a0 a1) 0) fun d13=>match d13 with
  | .inl d15=>
   some d15
  | .inr d16=>
   some (-1)
theorem W28 {a0:GReg} {a1:List UInt8} {r} (h:f28 a0 a1=some r):qc pr (X pr) 28 [aR a0,.str a1]=some (Iv r,false):=by
 unfold f28 at h
 refine zg c28 ?_
 repeat' first | (replace h:=qb h; obtain ⟨d,g,h⟩:=h; with_reducible first | (replace g:=j0i a0 a1 g; rcases d with d | d <;> dsimp only [qpo,qot,zi] at g h) | skip) | (replace h:=qd h; rcases h with ⟨g,h⟩ | ⟨g,h⟩) | fail
 all_goals (cases h <;> (simp only [go_sem,seval,c28,*]; exact ⟨_,rfl⟩))
noncomputable def qt5 (a0:GReg) (a1:List UInt8) (s0:Int):Option (Int ⊕ (Int ⊕ Int)):=
 cond (decide (s0 < ((a0.products.getD []).length:Int)))
  (qa (qw (a0.products.getD []) s0) fun v10=>
  cond (decide (v10.name=a1))
   (some (.inr (.inl s0)))
   (some (.inl (qe .i64 (s0 + 1)))))
  (some (.inr (.inr s0)))
def qmi (a0:GReg) (a1:List UInt8) (s0:Int):ASt:=⟨[(1,.str a1,false),(2,.vptr (aR a0),false),(5,Iv s0,false)],[]⟩
def ql1 (a0:GReg) (a1:List UInt8):Int ⊕ Int→jd × ASt
 | .inl d=>(.ret,⟨[(4,Iv d,false)],[]⟩)
 | .inr d=>(.exit 0,⟨[(1,.str a1,false),(2,.vptr (aR a0),false),(5,Iv d,false),(10,.bool false,false)],[]⟩)
theorem jpm (a0:GReg) (a1:List UInt8) (s0:Int) (r) (h:qt5 a0 a1 s0=some r):jy pr qpn (qmi a0 a1) (ql1 a0 a1) s0 r:=by
 unfold qt5 at h
 repeat' first | (replace h:=qb h; obtain ⟨d,g,h⟩:=h) | (replace h:=qd h; rcases h with ⟨g,h⟩ | ⟨g,h⟩) | fail
 all_goals (cases h <;> (first | (refine jb ?_; simp only [go_sem,seval,qpn,qmi,qv,ql1,*] <;> rfl) | (refine js ?_; simp only [go_sem,seval,qpn,qmi,qv,ql1,*] <;> rfl)))
theorem jsf (a0:GReg) (a1:List UInt8) {s0:Int} {d} (h:itO (qt5 a0 a1) s0=some d):X pr (.loop qpn) (qmi a0 a1 s0)=some (ql1 a0 a1 d):=zf (jpm a0 a1) (fun d=>by rcases d with d|d <;> (intro hh; cases hh)) h
noncomputable def f144 (a0:GReg) (a1:List UInt8):Option Int:=
 qa (itO (qt5 a0 a1) 0) fun d13=>match d13 with
  | .inl d15=>
   some d15
  | .inr d16=>
   some (-1)
theorem q8w {a0:GReg} {a1:List UInt8} {r} (h:f144 a0 a1=some r):qc pr (X pr) 144 [aR a0,.str a1]=some (Iv r,false):=by
 unfold f144 at h
 refine zg c144 ?_
 repeat' first | (replace h:=qb h; obtain ⟨d,g,h⟩:=h; with_reducible first | (replace g:=jsf a0 a1 g; rcases d with d | d <;> dsimp only [qmi,ql1,zi] at g h) | skip) | (replace h:=qd h; rcases h with ⟨g,h⟩ | ⟨g,h⟩) | fail
 all_goals (cases h <;> (simp only [go_sem,seval,c144,*]; exact ⟨_,rfl⟩))
noncomputable def qth (a0:Option (List GEv)) (s0:Int) (s1:Int):Option (Int ⊕ (Unit ⊕ Int)):=
 qa (qw (a0.getD []) s0) fun v79=>
 cond (decide (s1 < ((v79.names.getD []).length:Int)))
  (qa (qw (v79.names.getD []) s1) fun v82=>
  cond (decide (40 < (v82.length:Int)))
   (some (.inr (.inl ())))
   (some (.inl (qe .i64 (s1 + 1)))))
  (some (.inr (.inr s1)))
def qup (a0:Option (List GEv)) (s0:Int) (s1:Int):ASt:=⟨[(0,sl 5 vev a0,false),(5,Iv s0,false),(6,Iv s1,false)],[]⟩
def qt3 (a0:Option (List GEv)) (s0:Int):Unit ⊕ Int→jd × ASt
 | .inl d=>(.ret,⟨[(4,.bool false,false)],[]⟩)
 | .inr d=>(.exit 2,⟨[(0,sl 5 vev a0,false),(5,Iv s0,false),(6,Iv d,false),(58,.bool false,false)],[]⟩)
theorem zch (a0:Option (List GEv)) (s0:Int) (s1:Int) (r) (h:qth a0 s0 s1=some r):jy pr q2a (qup a0 s0) (qt3 a0 s0) s1 r:=by
 unfold qth at h
 repeat' first | (replace h:=qb h; obtain ⟨d,g,h⟩:=h) | (replace h:=qd h; rcases h with ⟨g,h⟩ | ⟨g,h⟩) | fail
 all_goals (cases h <;> (first | (refine jb ?_; simp only [go_sem,seval,q2a,qup,qv,qt3,*] <;> rfl) | (refine js ?_; simp only [go_sem,seval,q2a,qup,qv,qt3,*] <;> rfl)))
theorem zaf (a0:Option (List GEv)) (s0:Int) {s1:Int} {d} (h:itO (qth a0 s0) s1=some d):X pr (.loop q2a) (qup a0 s0 s1)=some (qt3 a0 s0 d):=zf (zch a0 s0) (fun d=>by rcases d with d|d <;> (intro hh; cases hh)) h
noncomputable def qtj (a0:Option (List GEv)) (s0:Int):Option (Int ⊕ (Unit ⊕ Int)):=
 cond (decide (s0 < ((a0.getD []).length:Int)))
  (qa (qw (a0.getD []) s0) fun v61=>
  cond (decide (40 < (v61.kind.length:Int)))
   (some (.inr (.inl ())))
   (cond (decide (6 < ((v61.names.getD []).length:Int)))
    (some (.inr (.inl ())))
    (cond (decide (8 < ((v61.values.getD []).length:Int)))
     (some (.inr (.inl ())))
     (cond (decide (200 < (v61.text.length:Int)))
      (some (.inr (.inl ())))
      (qa (itO (qth a0 s0) 0) fun d85=>match d85 with
       | .inl d87=>
        some (.inr (.inl ()))
       | .inr d88=>
        some (.inl (qe .i64 (s0 + 1))))))))
  (some (.inr (.inr s0)))
def qu7 (a0:Option (List GEv)) (s0:Int):ASt:=⟨[(0,sl 5 vev a0,false),(5,Iv s0,false)],[]⟩
def qwc (a0:Option (List GEv)):Unit ⊕ Int→jd × ASt
 | .inl d=>(.ret,⟨[(4,.bool false,false)],[]⟩)
 | .inr d=>(.exit 0,⟨[(0,sl 5 vev a0,false),(5,Iv d,false),(14,.bool false,false)],[]⟩)
theorem zbb (a0:Option (List GEv)) (s0:Int) (r) (h:qtj a0 s0=some r):jy pr q2t (qu7 a0) (qwc a0) s0 r:=by
 unfold qtj at h
 repeat' first | (replace h:=qb h; obtain ⟨d,g,h⟩:=h; with_reducible first | (replace g:=zaf a0 s0 g; rcases d with d | d <;> dsimp only [qup,qt3,zi] at g h) | skip) | (replace h:=qd h; rcases h with ⟨g,h⟩ | ⟨g,h⟩) | fail
 all_goals (cases h <;> (first | (refine jb ?_; simp only [go_sem,seval,q2t,qu7,qv,qwc,*] <;> rfl) | (refine js ?_; simp only [go_sem,seval,q2t,qu7,qv,qwc,*] <;> rfl)))
theorem zdx (a0:Option (List GEv)) {s0:Int} {d} (h:itO (qtj a0) s0=some d):X pr (.loop q2t) (qu7 a0 s0)=some (qwc a0 d):=zf (zbb a0) (fun d=>by rcases d with d|d <;> (intro hh; cases hh)) h
noncomputable def f7 (a0:Option (List GEv)) (a1:Int):Option Bool:=
 cond (decide (a1 < ((a0.getD []).length:Int)))
  (some false)
  (qa (itO (qtj a0) 0) fun d89=>match d89 with
   | .inl d91=>
    some false
   | .inr d92=>
    some true)
theorem W7 {a0:Option (List GEv)} {a1:Int} {r} (h:f7 a0 a1=some r):qc pr (X pr) 7 [sl 5 vev a0,Iv a1]=some (.bool r,false):=by
 unfold f7 at h
 refine zg c7 ?_
 repeat' first | (replace h:=qb h; obtain ⟨d,g,h⟩:=h; with_reducible first | (replace g:=zdx a0 g; rcases d with d | d <;> dsimp only [qu7,qwc,zi] at g h) | skip) | (replace h:=qd h; rcases h with ⟨g,h⟩ | ⟨g,h⟩) | fail
 all_goals (cases h <;> (simp only [go_sem,seval,c7,*]; exact ⟨_,rfl⟩))
noncomputable def qj7 (a0:GReg) (a1:GUn) (a2:List UInt8) (s0:Int × Int):Option ((Int × Int) ⊕ ((Int × Int))):=
 cond (decide (s0.2 < ((a1.uses.getD []).length:Int)))
  (qa (qw (a1.uses.getD []) s0.2) fun v18=>
  qa (f28 a0 v18.k) fun v20=>
  qa (qw (a0.lots.getD []) v20) fun v22=>
  cond (decide (v22.kind=a2))
   (some (.inl (qe .i64 (s0.1 + v18.n),qe .i64 (s0.2 + 1))))
   (some (.inl (s0.1,qe .i64 (s0.2 + 1)))))
  (some (.inr (s0.1,s0.2)))
def qlw (a0:GReg) (a1:GUn) (a2:List UInt8) (s0:Int × Int):ASt:=⟨[(2,.str a2,false),(3,.vptr (aR a0),false),(4,.vptr (aU a1),false),(7,Iv s0.1,false),(8,Iv s0.2,false)],[]⟩
def ql3 (a0:GReg) (a1:GUn) (a2:List UInt8) (d:(Int × Int)):jd × ASt:=(.exit 0,⟨[(2,.str a2,false),(3,.vptr (aR a0),false),(4,.vptr (aU a1),false),(7,Iv d.1,false),(8,Iv d.2,false),(13,.bool false,false)],[]⟩)
theorem jnt (a0:GReg) (a1:GUn) (a2:List UInt8) (s0:Int × Int) (r) (h:qj7 a0 a1 a2 s0=some r):jy pr qqw (qlw a0 a1 a2) (ql3 a0 a1 a2) s0 r:=by
 unfold qj7 at h
 repeat' first | (replace h:=qb h; obtain ⟨d,g,h⟩:=h; with_reducible first | replace g:=W28 g | skip) | (replace h:=qd h; rcases h with ⟨g,h⟩ | ⟨g,h⟩) | fail
 all_goals (cases h <;> (first | (refine jb ?_; simp only [go_sem,seval,qqw,qlw,qv,ql3,*] <;> rfl) | (refine js ?_; simp only [go_sem,seval,qqw,qlw,qv,ql3,*] <;> rfl)))
theorem jm3 (a0:GReg) (a1:GUn) (a2:List UInt8) {s0:Int × Int} {d} (h:itO (qj7 a0 a1 a2) s0=some d):X pr (.loop qqw) (qlw a0 a1 a2 s0)=some (ql3 a0 a1 a2 d):=zf (jnt a0 a1 a2) (fun d hh=>by cases hh) h
noncomputable def f145 (a0:GReg) (a1:GUn) (a2:List UInt8):Option Int:=
 qa (itO (qj7 a0 a1 a2) (0,0)) fun d25=>
 some d25.1
theorem zei {a0:GReg} {a1:GUn} {a2:List UInt8} {r} (h:f145 a0 a1 a2=some r):qc pr (X pr) 145 [aR a0,aU a1,.str a2]=some (Iv r,false):=by
 unfold f145 at h
 refine zg c145 ?_
 repeat' first | (replace h:=qb h; obtain ⟨d,g,h⟩:=h; with_reducible first | (replace g:=jm3 a0 a1 a2 g; dsimp only [qlw,ql3,zi] at g h) | skip) | (replace h:=qd h; rcases h with ⟨g,h⟩ | ⟨g,h⟩) | fail
 all_goals (cases h <;> (simp only [go_sem,seval,c145,*]; exact ⟨_,rfl⟩))
noncomputable def f78 (a0:GReg) (a1:GUn):Option GDoc:=
 qa (f144 a0 a1.product) fun v1=>
 qa (qw (a0.products.getD []) v1) fun v3=>
 qa (qw (v3.docs.getD []) (qe .i64 (a1.version - 1))) fun v5=>
 some v5
theorem W78 {a0:GReg} {a1:GUn} {r} (h:f78 a0 a1=some r):qc pr (X pr) 78 [aR a0,aU a1]=some (aD r,false):=by
 unfold f78 at h
 refine zg c78 ?_
 repeat' first | (replace h:=qb h; obtain ⟨d,g,h⟩:=h; with_reducible first | replace g:=q8w g | skip) | (replace h:=qd h; rcases h with ⟨g,h⟩ | ⟨g,h⟩) | fail
 all_goals (cases h <;> (simp only [go_sem,seval,c78,qv,*]; exact ⟨_,rfl⟩))
noncomputable def qnq (a0:GUn) (a1:qu) (s0:Bool × Int):Option ((Bool × Int) ⊕ ((Bool × Int))):=
 cond (decide (s0.2 < ((a0.results.getD []).length:Int)))
  (qa (qw (a0.results.getD []) s0.2) fun v14=>
  cond (decide (v14.k=a1.k))
   (cond (decide (v14.a=a0.version))
    (cond (decide (a1.a≤v14.b))
     (some (.inl (decide (v14.b≤a1.b),qe .i64 (s0.2 + 1))))
     (some (.inl (false,qe .i64 (s0.2 + 1)))))
    (some (.inl (s0.1,qe .i64 (s0.2 + 1)))))
   (some (.inl (s0.1,qe .i64 (s0.2 + 1)))))
  (some (.inr (s0.1,s0.2)))
def qoz (a0:GUn) (a1:qu) (s0:Bool × Int):ASt:=⟨[(2,.vptr (aU a0),false),(3,.vptr (aT a1),false),(5,.bool s0.1,false),(6,Iv s0.2,false)],[]⟩
def qq5 (a0:GUn) (a1:qu) (d:(Bool × Int)):jd × ASt:=(.exit 0,⟨[(2,.vptr (aU a0),false),(3,.vptr (aT a1),false),(5,.bool d.1,false),(6,Iv d.2,false),(12,.bool false,false)],[]⟩)
theorem j20 (a0:GUn) (a1:qu) (s0:Bool × Int) (r) (h:qnq a0 a1 s0=some r):jy pr qwa (qoz a0 a1) (qq5 a0 a1) s0 r:=by
 unfold qnq at h
 repeat' first | (replace h:=qb h; obtain ⟨d,g,h⟩:=h) | (replace h:=qd h; rcases h with ⟨g,h⟩ | ⟨g,h⟩) | fail
 all_goals (cases h <;> (first | (refine jb ?_; simp only [go_sem,seval,qwa,qoz,qv,qq5,*] <;> rfl) | (refine js ?_; simp only [go_sem,seval,qwa,qoz,qv,qq5,*] <;> rfl)))
theorem j3r (a0:GUn) (a1:qu) {s0:Bool × Int} {d} (h:itO (qnq a0 a1) s0=some d):X pr (.loop qwa) (qoz a0 a1 s0)=some (qq5 a0 a1 d):=zf (j20 a0 a1) (fun d hh=>by cases hh) h
noncomputable def f79 (a0:GUn) (a1:qu):Option Bool:=
 qa (itO (qnq a0 a1) (false,0)) fun d19=>
 some d19.1
theorem W79 {a0:GUn} {a1:qu} {r} (h:f79 a0 a1=some r):qc pr (X pr) 79 [aU a0,aT a1]=some (.bool r,false):=by
 unfold f79 at h
 refine zg c79 ?_
 repeat' first | (replace h:=qb h; obtain ⟨d,g,h⟩:=h; with_reducible first | (replace g:=j3r a0 a1 g; dsimp only [qoz,qq5,zi] at g h) | skip) | (replace h:=qd h; rcases h with ⟨g,h⟩ | ⟨g,h⟩) | fail
 all_goals (cases h <;> (simp only [go_sem,seval,c79,*]; exact ⟨_,rfl⟩))
noncomputable def f80 (a0:GReg) (a1:GUn):Option Int:=
 qa (f144 a0 a1.product) fun v1=>
 qa (qw (a0.products.getD []) v1) fun v3=>
 some ((v3.docs.getD []).length:Int)
theorem W80 {a0:GReg} {a1:GUn} {r} (h:f80 a0 a1=some r):qc pr (X pr) 80 [aR a0,aU a1]=some (Iv r,false):=by
 unfold f80 at h
 refine zg c80 ?_
 repeat' first | (replace h:=qb h; obtain ⟨d,g,h⟩:=h; with_reducible first | replace g:=q8w g | skip) | (replace h:=qd h; rcases h with ⟨g,h⟩ | ⟨g,h⟩) | fail
 all_goals (cases h <;> (simp only [go_sem,seval,c80,qv,*]; exact ⟨_,rfl⟩))
noncomputable def qn9 (a0:GReg) (a1:GUn) (v1:GDoc) (s0:Int):Option (Int ⊕ (Unit ⊕ Int)):=
 cond (decide (s0 < ((v1.needs.getD []).length:Int)))
  (qa (qw (v1.needs.getD []) s0) fun v16=>
  qa (f145 a0 a1 v16.k) fun v18=>
  cond (decide (v18 < v16.n))
   (some (.inr (.inl ())))
   (some (.inl (qe .i64 (s0 + 1)))))
  (some (.inr (.inr s0)))
def qp1 (a0:GReg) (a1:GUn) (v1:GDoc) (s0:Int):ASt:=⟨[(2,.vptr (aR a0),false),(3,.vptr (aU a1),false),(5,.vptr (aD v1),false),(6,Iv s0,false)],[]⟩
def qqm (a0:GReg) (a1:GUn) (v1:GDoc):Unit ⊕ Int→jd × ASt
 | .inl d=>(.ret,⟨[(4,.bool false,false)],[]⟩)
 | .inr d=>(.exit 0,⟨[(2,.vptr (aR a0),false),(3,.vptr (aU a1),false),(5,.vptr (aD v1),false),(6,Iv d,false),(14,.bool false,false)],[]⟩)
theorem jw0 (a0:GReg) (a1:GUn) (v1:GDoc) (s0:Int) (r) (h:qn9 a0 a1 v1 s0=some r):jy pr qug (qp1 a0 a1 v1) (qqm a0 a1 v1) s0 r:=by
 unfold qn9 at h
 repeat' first | (replace h:=qb h; obtain ⟨d,g,h⟩:=h; with_reducible first | replace g:=zei g | skip) | (replace h:=qd h; rcases h with ⟨g,h⟩ | ⟨g,h⟩) | fail
 all_goals (cases h <;> (first | (refine jb ?_; simp only [go_sem,seval,qug,qp1,qv,qqm,*] <;> rfl) | (refine js ?_; simp only [go_sem,seval,qug,qp1,qv,qqm,*] <;> rfl)))
theorem jvk (a0:GReg) (a1:GUn) (v1:GDoc) {s0:Int} {d} (h:itO (qn9 a0 a1 v1) s0=some d):X pr (.loop qug) (qp1 a0 a1 v1 s0)=some (qqm a0 a1 v1 d):=zf (jw0 a0 a1 v1) (fun d=>by rcases d with d|d <;> (intro hh; cases hh)) h
noncomputable def f81 (a0:GReg) (a1:GUn):Option Bool:=
 qa (f78 a0 a1) fun v1=>
 qa (itO (qn9 a0 a1 v1) 0) fun d21=>match d21 with
  | .inl d23=>
   some false
  | .inr d24=>
   some true
theorem W81 {a0:GReg} {a1:GUn} {r} (h:f81 a0 a1=some r):qc pr (X pr) 81 [aR a0,aU a1]=some (.bool r,false):=by
 unfold f81 at h
 refine zg c81 ?_
 repeat' first | (replace h:=qb h; obtain ⟨d,g,h⟩:=h; with_reducible first | replace g:=W78 g | (replace g:=jvk a0 a1 _ g; rcases d with d | d <;> dsimp only [qp1,qqm,zi] at g h) | skip) | (replace h:=qd h; rcases h with ⟨g,h⟩ | ⟨g,h⟩) | fail
 all_goals (cases h <;> (simp only [go_sem,seval,c81,*]; exact ⟨_,rfl⟩))
noncomputable def qnv (a1:GUn) (v1:GDoc) (s0:(Option (List (List UInt8))) × Int × Bool):Option (((Option (List (List UInt8))) × Int × Bool) ⊕ (((Option (List (List UInt8))) × Bool × Int))):=
 cond (decide (s0.2.1 < ((v1.tests.getD []).length:Int)))
  (qa (qw (v1.tests.getD []) s0.2.1) fun v22=>
  qa (f79 a1 v22) fun v24=>
  cond v24
   (some (.inl (s0.1,qe .i64 (s0.2.1 + 1),s0.2.2)))
   (cond s0.2.2
    (qa (apO s0.1 [v22.k]) fun v28=>
    some (.inl (v28,qe .i64 (s0.2.1 + 1),true)))
    (cond s0.1.isNone
     (qa (apO s0.1 [v22.k]) fun v31=>
     some (.inl (v31,qe .i64 (s0.2.1 + 1),true)))
     (none))))
  (some (.inr (s0.1,s0.2.2,s0.2.1)))
def qo8 (a1:GUn) (v1:GDoc) (s0:(Option (List (List UInt8))) × Int × Bool):ASt:=⟨[(3,.vptr (aU a1),false),(5,.vptr (aD v1),false),(6,sl 1 ye s0.1,s0.2.2),(7,Iv s0.2.1,false)],[]⟩
def qo2 (a1:GUn) (v1:GDoc) (d:((Option (List (List UInt8))) × Bool × Int)):jd × ASt:=(.exit 0,⟨[(3,.vptr (aU a1),false),(5,.vptr (aD v1),false),(6,sl 1 ye d.1,d.2.1),(7,Iv d.2.2,false),(15,.bool false,false)],[]⟩)
theorem juw (a1:GUn) (v1:GDoc) (s0:(Option (List (List UInt8))) × Int × Bool) (r) (h:qnv a1 v1 s0=some r):jy pr qvo (qo8 a1 v1) (qo2 a1 v1) s0 r:=by
 unfold qnv at h
 repeat' first | (replace h:=qb h; obtain ⟨d,g,h⟩:=h; with_reducible first | replace g:=W79 g | replace g:=q4s g | skip) | (replace h:=qd h; rcases h with ⟨g,h⟩ | ⟨g,h⟩) | fail
 all_goals (cases h <;> (first | (refine jb ?_; simp only [go_sem,seval,qvo,qo8,qv,qo2,*] <;> rfl) | (refine js ?_; simp only [go_sem,seval,qvo,qo8,qv,qo2,*] <;> rfl)))
theorem jy3 (a1:GUn) (v1:GDoc) {s0:(Option (List (List UInt8))) × Int × Bool} {d} (h:itO (qnv a1 v1) s0=some d):X pr (.loop qvo) (qo8 a1 v1 s0)=some (qo2 a1 v1 d):=zf (juw a1 v1) (fun d hh=>by cases hh) h
noncomputable def f30 (a0:GReg) (a1:GUn):Option ((Option (List (List UInt8))) × Bool):=
 qa (f78 a0 a1) fun v1=>
 qa (itO (qnv a1 v1) (none,0,false)) fun d33=>
 some (d33.1,d33.2.1)
theorem W30 {a0:GReg} {a1:GUn} {r} (h:f30 a0 a1=some r):qc pr (X pr) 30 [aR a0,aU a1]=some (sl 1 ye r.1,r.2):=by
 unfold f30 at h
 refine kg c30 ?_
 repeat' first | (replace h:=qb h; obtain ⟨d,g,h⟩:=h; with_reducible first | replace g:=W78 g | (replace g:=jy3 a1 _ g; dsimp only [qo8,qo2,zi] at g h) | skip) | (replace h:=qd h; rcases h with ⟨g,h⟩ | ⟨g,h⟩) | fail
 all_goals (cases h <;> (simp only [go_sem,seval,c30,*]; exact ⟨_,rfl⟩))
noncomputable def qkb (a0:GReg) (a1:GUn) (s0:Int):Option (Int ⊕ (Unit ⊕ Int)):=
 cond (decide (s0 < ((a1.uses.getD []).length:Int)))
  (qa (qw (a1.uses.getD []) s0) fun v28=>
  qa (f28 a0 v28.k) fun v30=>
  qa (qw (a0.lots.getD []) v30) fun v32=>
  cond v32.held
   (some (.inr (.inl ())))
   (some (.inl (qe .i64 (s0 + 1)))))
  (some (.inr (.inr s0)))
def qpf (a0:GReg) (a1:GUn) (s0:Int):ASt:=⟨[(2,.vptr (aR a0),false),(3,.vptr (.agg [.str a1.name,.str a1.product,Iv a1.version,sl 2 vsi a1.uses,sl 3 je a1.results,.str a1.partner,.bool false,Iv a1.complaints]),false),(5,Iv s0,false)],[]⟩
def qra (a0:GReg) (a1:GUn):Unit ⊕ Int→jd × ASt
 | .inl d=>(.ret,⟨[(4,Iv 34,false)],[]⟩)
 | .inr d=>(.exit 0,⟨[(2,.vptr (aR a0),false),(3,.vptr (.agg [.str a1.name,.str a1.product,Iv a1.version,sl 2 vsi a1.uses,sl 3 je a1.results,.str a1.partner,.bool false,Iv a1.complaints]),false),(5,Iv d,false),(27,.bool false,false)],[]⟩)
theorem jym (a0:GReg) (a1:GUn) (s0:Int) (r) (h:qkb a0 a1 s0=some r):jy pr qwm (qpf a0 a1) (qra a0 a1) s0 r:=by
 unfold qkb at h
 repeat' first | (replace h:=qb h; obtain ⟨d,g,h⟩:=h; with_reducible first | replace g:=W28 g | skip) | (replace h:=qd h; rcases h with ⟨g,h⟩ | ⟨g,h⟩) | fail
 all_goals (cases h <;> (first | (refine jb ?_; simp only [go_sem,seval,qwm,qpf,qv,qra,*] <;> rfl) | (refine js ?_; simp only [go_sem,seval,qwm,qpf,qv,qra,*] <;> rfl)))
theorem jvt (a0:GReg) (a1:GUn) {s0:Int} {d} (h:itO (qkb a0 a1) s0=some d):X pr (.loop qwm) (qpf a0 a1 s0)=some (qra a0 a1 d):=zf (jym a0 a1) (fun d=>by rcases d with d|d <;> (intro hh; cases hh)) h
noncomputable def f31 (a0:GReg) (a1:GUn):Option Int:=
 cond a1.shipped
  (some 21)
  (qa (f80 a0 (⟨a1.name,a1.product,a1.version,a1.uses,a1.results,a1.partner,false,a1.complaints⟩)) fun v2=>
  cond (decide (a1.version=v2))
   (qa (f81 a0 (⟨a1.name,a1.product,a1.version,a1.uses,a1.results,a1.partner,false,a1.complaints⟩)) fun v5=>
   cond v5
    (qa (f30 a0 (⟨a1.name,a1.product,a1.version,a1.uses,a1.results,a1.partner,false,a1.complaints⟩)) fun v8=>
    cond (decide (0 < ((v8.1.getD []).length:Int)))
     (some 31)
     (qa (itO (qkb a0 a1) 0) fun d35=>match d35 with
      | .inl d37=>
       some 34
      | .inr d38=>
       some 0))
    (some 20))
   (some 32))
theorem W31 {a0:GReg} {a1:GUn} {r} (h:f31 a0 a1=some r):qc pr (X pr) 31 [.agg [.int .i64 a0.day,sl 5 jg a0.lots,sl 4 qz a0.products,sl 8 vun a0.units],.agg [.str a1.name,.str a1.product,.int .i64 a1.version,sl 2 vsi a1.uses,sl 3 je a1.results,.str a1.partner,.bool a1.shipped,.int .i64 a1.complaints]]=some (.int .i64 r,false):=by
 unfold f31 at h
 refine zg c31 ?_
 repeat' first | (replace h:=qb h; obtain ⟨d,g,h⟩:=h; with_reducible first | replace g:=W80 g | replace g:=W81 g | replace g:=W30 g | (replace g:=jvt a0 a1 g; rcases d with d | d <;> dsimp only [qpf,qra,zi] at g h) | skip) | (replace h:=qd h; rcases h with ⟨g,h⟩ | ⟨g,h⟩) | fail
 all_goals (cases h <;> (simp only [go_sem,seval,c31,*]; exact ⟨_,rfl⟩))
end Go.Z
