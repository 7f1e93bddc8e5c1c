/- Chapter 10. -/
import Derived.Test.YtfopaakmgogpiaaGreatDoorW4
import Derived.Test.YtfopaakmgogpiaaGreatDoorAbsL
import Derived.Test.YtfopaakmgogpiaaGreatDoorCA
set_option linter.unusedVariables false
set_option linter.unusedSimpArgs false
set_option maxRecDepth 100000
set_option maxHeartbeats 4000000
namespace Go.Z
open Go Go.Abs Go.W
noncomputable def qjw (a0:GDoc) (a1:GDoc) (s0:Int):Option (Int ⊕ (Unit ⊕ Int)):=
 cond (decide (s0 < ((a0.needs.getD []).length:Int)))
  (qa (qw (a0.needs.getD []) s0) fun v16=>
  qa (qw (a1.needs.getD []) s0) fun v18=>
  cond (decide (v16.k=v18.k) && decide (v16.n=v18.n))
   (some (.inl (qe .i64 (s0 + 1))))
   (some (.inr (.inl ()))))
  (some (.inr (.inr s0)))
def qmy (a0:GDoc) (a1:GDoc) (s0:Int):ASt:=⟨[(2,.vptr (aD a0),false),(3,.vptr (aD a1),false),(5,Iv s0,false)],[]⟩
def qlp (a0:GDoc) (a1:GDoc):Unit ⊕ Int→jd × ASt
 | .inl d=>(.ret,⟨[(4,.bool false,false)],[]⟩)
 | .inr d=>(.exit 0,⟨[(2,.vptr (aD a0),false),(3,.vptr (aD a1),false),(5,Iv d,false),(27,.bool false,false)],[]⟩)
theorem jnm (a0:GDoc) (a1:GDoc) (s0:Int) (r) (h:qjw a0 a1 s0=some r):jy pr qqk (qmy a0 a1) (qlp a0 a1) s0 r:=by
 unfold qjw at h
 repeat' first | (replace h:=qb h; obtain ⟨d,g,h⟩:=h) | (replace h:=qd h; rcases h with ⟨g,h⟩ | ⟨g,h⟩) | fail
 all_goals (cases h <;> (first | (refine jb ?_; simp only [go_sem,seval,qqk,qmy,qv,qlp,*] <;> rfl) | (refine js ?_; simp only [go_sem,seval,qqk,qmy,qv,qlp,*] <;> rfl)))
theorem jsy (a0:GDoc) (a1:GDoc) {s0:Int} {d} (h:itO (qjw a0 a1) s0=some d):X pr (.loop qqk) (qmy a0 a1 s0)=some (qlp a0 a1 d):=zf (jnm a0 a1) (fun d=>by rcases d with d|d <;> (intro hh; cases hh)) h
noncomputable def qi6 (a0:GDoc) (a1:GDoc) (s1:Int):Option (Int ⊕ (Unit ⊕ Int)):=
 cond (decide (s1 < ((a0.tests.getD []).length:Int)))
  (qa (qw (a0.tests.getD []) s1) fun v38=>
  qa (qw (a1.tests.getD []) s1) fun v40=>
  cond (decide (v38.k=v40.k) && decide (v38.a=v40.a) && decide (v38.b=v40.b))
   (some (.inl (qe .i64 (s1 + 1))))
   (some (.inr (.inl ()))))
  (some (.inr (.inr s1)))
def qma (a0:GDoc) (a1:GDoc) (s1:Int):ASt:=⟨[(2,.vptr (aD a0),false),(3,.vptr (aD a1),false),(6,Iv s1,false)],[]⟩
def qms (a0:GDoc) (a1:GDoc):Unit ⊕ Int→jd × ASt
 | .inl d=>(.ret,⟨[(4,.bool false,false)],[]⟩)
 | .inr d=>(.exit 2,⟨[(2,.vptr (aD a0),false),(3,.vptr (aD a1),false),(6,Iv d,false),(45,.bool false,false)],[]⟩)
theorem jne (a0:GDoc) (a1:GDoc) (s1:Int) (r) (h:qi6 a0 a1 s1=some r):jy pr qq7 (qma a0 a1) (qms a0 a1) s1 r:=by
 unfold qi6 at h
 repeat' first | (replace h:=qb h; obtain ⟨d,g,h⟩:=h) | (replace h:=qd h; rcases h with ⟨g,h⟩ | ⟨g,h⟩) | fail
 all_goals (cases h <;> (first | (refine jb ?_; simp only [go_sem,seval,qq7,qma,qv,qms,*] <;> rfl) | (refine js ?_; simp only [go_sem,seval,qq7,qma,qv,qms,*] <;> rfl)))
theorem jqi (a0:GDoc) (a1:GDoc) {s1:Int} {d} (h:itO (qi6 a0 a1) s1=some d):X pr (.loop qq7) (qma a0 a1 s1)=some (qms a0 a1 d):=zf (jne a0 a1) (fun d=>by rcases d with d|d <;> (intro hh; cases hh)) h
noncomputable def f119 (a0:GDoc) (a1:GDoc):Option Bool:=
 cond (decide (((a0.needs.getD []).length:Int)=((a1.needs.getD []).length:Int)))
  (cond (decide (((a0.tests.getD []).length:Int)=((a1.tests.getD []).length:Int)))
   (qa (itO (qjw a0 a1) 0) fun d21=>match d21 with
    | .inl d23=>
     some false
    | .inr d24=>
     qa (itO (qi6 a0 a1) 0) fun d43=>match d43 with
      | .inl d45=>
       some false
      | .inr d46=>
       some true)
   (some false))
  (some false)
theorem jpj {a0:GDoc} {a1:GDoc} {r} (h:f119 a0 a1=some r):qc pr (X pr) 119 [aD a0,aD a1]=some (.bool r,false):=by
 unfold f119 at h
 refine zg c119 ?_
 repeat' first | (replace h:=qb h; obtain ⟨d,g,h⟩:=h; with_reducible first | (replace g:=jsy a0 a1 g; rcases d with d | d <;> dsimp only [qmy,qlp,zi] at g h) | (replace g:=jqi a0 a1 g; rcases d with d | d <;> dsimp only [qma,qms,zi] at g h) | skip) | (replace h:=qd h; rcases h with ⟨g,h⟩ | ⟨g,h⟩) | fail
 all_goals (cases h <;> (simp only [go_sem,seval,c119,*]; exact ⟨_,rfl⟩))
noncomputable def qoc (a0:GProd) (a1:GProd) (s0:Int):Option (Int ⊕ (Unit ⊕ Int)):=
 cond (decide (s0 < ((a0.docs.getD []).length:Int)))
  (qa (qw (a0.docs.getD []) s0) fun v23=>
  qa (qw (a1.docs.getD []) s0) fun v25=>
  qa (f119 v23 v25) fun v27=>
  cond v27
   (some (.inl (qe .i64 (s0 + 1))))
   (some (.inr (.inl ()))))
  (some (.inr (.inr s0)))
def qqd (a0:GProd) (a1:GProd) (s0:Int):ASt:=⟨[(2,.vptr (aP a0),false),(3,.vptr (aP a1),false),(5,Iv s0,false)],[]⟩
def qov (a0:GProd) (a1:GProd):Unit ⊕ Int→jd × ASt
 | .inl d=>(.ret,⟨[(4,.bool false,false)],[]⟩)
 | .inr d=>(.exit 0,⟨[(2,.vptr (aP a0),false),(3,.vptr (aP a1),false),(5,Iv d,false),(32,.bool false,false)],[]⟩)
theorem j2a (a0:GProd) (a1:GProd) (s0:Int) (r) (h:qoc a0 a1 s0=some r):jy pr qux (qqd a0 a1) (qov a0 a1) s0 r:=by
 unfold qoc at h
 repeat' first | (replace h:=qb h; obtain ⟨d,g,h⟩:=h; with_reducible first | replace g:=jpj g | skip) | (replace h:=qd h; rcases h with ⟨g,h⟩ | ⟨g,h⟩) | fail
 all_goals (cases h <;> (first | (refine jb ?_; simp only [go_sem,seval,qux,qqd,qv,qov,*] <;> rfl) | (refine js ?_; simp only [go_sem,seval,qux,qqd,qv,qov,*] <;> rfl)))
theorem j21 (a0:GProd) (a1:GProd) {s0:Int} {d} (h:itO (qoc a0 a1) s0=some d):X pr (.loop qux) (qqd a0 a1 s0)=some (qov a0 a1 d):=zf (j2a a0 a1) (fun d=>by rcases d with d|d <;> (intro hh; cases hh)) h
noncomputable def f61 (a0:GProd) (a1:GProd):Option Bool:=
 cond (decide (a0.name=a1.name))
  (qa (f119 (⟨a0.dn,a0.dt⟩) (⟨a1.dn,a1.dt⟩)) fun v2=>
  cond v2
   (cond (decide (((a0.docs.getD []).length:Int)=((a1.docs.getD []).length:Int)))
    (qa (itO (qoc a0 a1) 0) fun d30=>match d30 with
     | .inl d32=>
      some false
     | .inr d33=>
      some true)
    (some false))
   (some false))
  (some false)
theorem W61 {a0:GProd} {a1:GProd} {r} (h:f61 a0 a1=some r):qc pr (X pr) 61 [aP a0,aP a1]=some (.bool r,false):=by
 unfold f61 at h
 refine zg c61 ?_
 repeat' first | (replace h:=qb h; obtain ⟨d,g,h⟩:=h; with_reducible first | replace g:=jpj g | (replace g:=j21 a0 a1 g; rcases d with d | d <;> dsimp only [qqd,qov,zi] at g h) | skip) | (replace h:=qd h; rcases h with ⟨g,h⟩ | ⟨g,h⟩) | fail
 all_goals (cases h <;> (simp only [go_sem,seval,c61,*]; exact ⟨_,rfl⟩))
noncomputable def qnx (a0:GUn) (a1:GUn) (s0:Int):Option (Int ⊕ (Unit ⊕ Int)):=
 cond (decide (s0 < ((a0.uses.getD []).length:Int)))
  (qa (qw (a0.uses.getD []) s0) fun v22=>
  qa (qw (a1.uses.getD []) s0) fun v24=>
  cond (decide (v22.k=v24.k) && decide (v22.n=v24.n))
   (some (.inl (qe .i64 (s0 + 1))))
   (some (.inr (.inl ()))))
  (some (.inr (.inr s0)))
def qpt (a0:GUn) (a1:GUn) (s0:Int):ASt:=⟨[(2,.vptr (aU a0),false),(3,.vptr (aU a1),false),(5,Iv s0,false)],[]⟩
def qp0 (a0:GUn) (a1:GUn):Unit ⊕ Int→jd × ASt
 | .inl d=>(.ret,⟨[(4,.bool false,false)],[]⟩)
 | .inr d=>(.exit 0,⟨[(2,.vptr (aU a0),false),(3,.vptr (aU a1),false),(5,Iv d,false),(69,.bool false,false)],[]⟩)
theorem j28 (a0:GUn) (a1:GUn) (s0:Int) (r) (h:qnx a0 a1 s0=some r):jy pr qwk (qpt a0 a1) (qp0 a0 a1) s0 r:=by
 unfold qnx at h
 repeat' first | (replace h:=qb h; obtain ⟨d,g,h⟩:=h) | (replace h:=qd h; rcases h with ⟨g,h⟩ | ⟨g,h⟩) | fail
 all_goals (cases h <;> (first | (refine jb ?_; simp only [go_sem,seval,qwk,qpt,qv,qp0,*] <;> rfl) | (refine js ?_; simp only [go_sem,seval,qwk,qpt,qv,qp0,*] <;> rfl)))
theorem jxv (a0:GUn) (a1:GUn) {s0:Int} {d} (h:itO (qnx a0 a1) s0=some d):X pr (.loop qwk) (qpt a0 a1 s0)=some (qp0 a0 a1 d):=zf (j28 a0 a1) (fun d=>by rcases d with d|d <;> (intro hh; cases hh)) h
noncomputable def qnb (a0:GUn) (a1:GUn) (s1:Int):Option (Int ⊕ (Unit ⊕ Int)):=
 cond (decide (s1 < ((a0.results.getD []).length:Int)))
  (qa (qw (a0.results.getD []) s1) fun v44=>
  qa (qw (a1.results.getD []) s1) fun v46=>
  cond (decide (v44.k=v46.k) && decide (v44.a=v46.a) && decide (v44.b=v46.b))
   (some (.inl (qe .i64 (s1 + 1))))
   (some (.inr (.inl ()))))
  (some (.inr (.inr s1)))
def qq6 (a0:GUn) (a1:GUn) (s1:Int):ASt:=⟨[(2,.vptr (aU a0),false),(3,.vptr (aU a1),false),(6,Iv s1,false)],[]⟩
def qpu (a0:GUn) (a1:GUn):Unit ⊕ Int→jd × ASt
 | .inl d=>(.ret,⟨[(4,.bool false,false)],[]⟩)
 | .inr d=>(.exit 2,⟨[(2,.vptr (aU a0),false),(3,.vptr (aU a1),false),(6,Iv d,false),(87,.bool false,false)],[]⟩)
theorem jz1 (a0:GUn) (a1:GUn) (s1:Int) (r) (h:qnb a0 a1 s1=some r):jy pr quy (qq6 a0 a1) (qpu a0 a1) s1 r:=by
 unfold qnb at h
 repeat' first | (replace h:=qb h; obtain ⟨d,g,h⟩:=h) | (replace h:=qd h; rcases h with ⟨g,h⟩ | ⟨g,h⟩) | fail
 all_goals (cases h <;> (first | (refine jb ?_; simp only [go_sem,seval,quy,qq6,qv,qpu,*] <;> rfl) | (refine js ?_; simp only [go_sem,seval,quy,qq6,qv,qpu,*] <;> rfl)))
theorem jvx (a0:GUn) (a1:GUn) {s1:Int} {d} (h:itO (qnb a0 a1) s1=some d):X pr (.loop quy) (qq6 a0 a1 s1)=some (qpu a0 a1 d):=zf (jz1 a0 a1) (fun d=>by rcases d with d|d <;> (intro hh; cases hh)) h
noncomputable def f62 (a0:GUn) (a1:GUn):Option Bool:=
 cond (decide (a0.name=a1.name))
  (cond (decide (a0.product=a1.product))
   (cond (decide (a0.version=a1.version))
    (cond (decide (a0.partner=a1.partner))
     (cond (a0.shipped == a1.shipped)
      (cond (decide (a0.complaints=a1.complaints))
       (cond (decide (((a0.uses.getD []).length:Int)=((a1.uses.getD []).length:Int)))
        (cond (decide (((a0.results.getD []).length:Int)=((a1.results.getD []).length:Int)))
         (qa (itO (qnx a0 a1) 0) fun d27=>match d27 with
          | .inl d29=>
           some false
          | .inr d30=>
           qa (itO (qnb a0 a1) 0) fun d49=>match d49 with
            | .inl d51=>
             some false
            | .inr d52=>
             some true)
         (some false))
        (some false))
       (some false))
      (some false))
     (some false))
    (some false))
   (some false))
  (some false)
theorem W62 {a0:GUn} {a1:GUn} {r} (h:f62 a0 a1=some r):qc pr (X pr) 62 [aU a0,aU a1]=some (.bool r,false):=by
 unfold f62 at h
 refine zg c62 ?_
 repeat' first | (replace h:=qb h; obtain ⟨d,g,h⟩:=h; with_reducible first | (replace g:=jxv a0 a1 g; rcases d with d | d <;> dsimp only [qpt,qp0,zi] at g h) | (replace g:=jvx a0 a1 g; rcases d with d | d <;> dsimp only [qq6,qpu,zi] at g h) | skip) | (replace h:=qd h; rcases h with ⟨g,h⟩ | ⟨g,h⟩) | fail
 all_goals (cases h <;> (simp only [go_sem,seval,c62,*]; exact ⟨_,rfl⟩))
noncomputable def qnt (a0:GReg) (a1:GReg) (s0:Int):Option (Int ⊕ (Unit ⊕ Int)):=
 cond (decide (s0 < ((a0.lots.getD []).length:Int)))
  (qa (qw (a0.lots.getD []) s0) fun v18=>
  qa (qw (a1.lots.getD []) s0) fun v20=>
  cond (decide (v18.name=v20.name) && decide (v18.kind=v20.kind) && decide (v18.count=v20.count) && decide (v18.left=v20.left) && decide (v18.held=v20.held))
   (some (.inl (qe .i64 (s0 + 1))))
   (some (.inr (.inl ()))))
  (some (.inr (.inr s0)))
def qrc (a0:GReg) (a1:GReg) (s0:Int):ASt:=⟨[(2,.vptr (aR a0),false),(3,.vptr (aR a1),false),(5,Iv s0,false)],[]⟩
def qqc (a0:GReg) (a1:GReg):Unit ⊕ Int→jd × ASt
 | .inl d=>(.ret,⟨[(4,.bool false,false)],[]⟩)
 | .inr d=>(.exit 0,⟨[(2,.vptr (aR a0),false),(3,.vptr (aR a1),false),(5,Iv d,false),(44,.bool false,false)],[]⟩)
theorem jv3 (a0:GReg) (a1:GReg) (s0:Int) (r) (h:qnt a0 a1 s0=some r):jy pr qua (qrc a0 a1) (qqc a0 a1) s0 r:=by
 unfold qnt at h
 repeat' first | (replace h:=qb h; obtain ⟨d,g,h⟩:=h) | (replace h:=qd h; rcases h with ⟨g,h⟩ | ⟨g,h⟩) | fail
 all_goals (cases h <;> (first | (refine jb ?_; simp only [go_sem,seval,qua,qrc,qv,qqc,*] <;> rfl) | (refine js ?_; simp only [go_sem,seval,qua,qrc,qv,qqc,*] <;> rfl)))
theorem jx5 (a0:GReg) (a1:GReg) {s0:Int} {d} (h:itO (qnt a0 a1) s0=some d):X pr (.loop qua) (qrc a0 a1 s0)=some (qqc a0 a1 d):=zf (jv3 a0 a1) (fun d=>by rcases d with d|d <;> (intro hh; cases hh)) h
noncomputable def qn7 (a0:GReg) (a1:GReg) (s1:Int):Option (Int ⊕ (Unit ⊕ Int)):=
 cond (decide (s1 < ((a0.products.getD []).length:Int)))
  (qa (qw (a0.products.getD []) s1) fun v44=>
  qa (qw (a1.products.getD []) s1) fun v46=>
  qa (f61 v44 v46) fun v48=>
  cond v48
   (some (.inl (qe .i64 (s1 + 1))))
   (some (.inr (.inl ()))))
  (some (.inr (.inr s1)))
def qo5 (a0:GReg) (a1:GReg) (s1:Int):ASt:=⟨[(2,.vptr (aR a0),false),(3,.vptr (aR a1),false),(6,Iv s1,false)],[]⟩
def qpg (a0:GReg) (a1:GReg):Unit ⊕ Int→jd × ASt
 | .inl d=>(.ret,⟨[(4,.bool false,false)],[]⟩)
 | .inr d=>(.exit 2,⟨[(2,.vptr (aR a0),false),(3,.vptr (aR a1),false),(6,Iv d,false),(62,.bool false,false)],[]⟩)
theorem j1c (a0:GReg) (a1:GReg) (s1:Int) (r) (h:qn7 a0 a1 s1=some r):jy pr qul (qo5 a0 a1) (qpg a0 a1) s1 r:=by
 unfold qn7 at h
 repeat' first | (replace h:=qb h; obtain ⟨d,g,h⟩:=h; with_reducible first | replace g:=W61 g | skip) | (replace h:=qd h; rcases h with ⟨g,h⟩ | ⟨g,h⟩) | fail
 all_goals (cases h <;> (first | (refine jb ?_; simp only [go_sem,seval,qul,qo5,qv,qpg,*] <;> rfl) | (refine js ?_; simp only [go_sem,seval,qul,qo5,qv,qpg,*] <;> rfl)))
theorem j0x (a0:GReg) (a1:GReg) {s1:Int} {d} (h:itO (qn7 a0 a1) s1=some d):X pr (.loop qul) (qo5 a0 a1 s1)=some (qpg a0 a1 d):=zf (j1c a0 a1) (fun d=>by rcases d with d|d <;> (intro hh; cases hh)) h
noncomputable def qn8 (a0:GReg) (a1:GReg) (s2:Int):Option (Int ⊕ (Unit ⊕ Int)):=
 cond (decide (s2 < ((a0.units.getD []).length:Int)))
  (qa (qw (a0.units.getD []) s2) fun v72=>
  qa (qw (a1.units.getD []) s2) fun v74=>
  qa (f62 v72 v74) fun v76=>
  cond v76
   (some (.inl (qe .i64 (s2 + 1))))
   (some (.inr (.inl ()))))
  (some (.inr (.inr s2)))
def qpq (a0:GReg) (a1:GReg) (s2:Int):ASt:=⟨[(2,.vptr (aR a0),false),(3,.vptr (aR a1),false),(7,Iv s2,false)],[]⟩
def qp6 (a0:GReg) (a1:GReg):Unit ⊕ Int→jd × ASt
 | .inl d=>(.ret,⟨[(4,.bool false,false)],[]⟩)
 | .inr d=>(.exit 4,⟨[(2,.vptr (aR a0),false),(3,.vptr (aR a1),false),(7,Iv d,false),(81,.bool false,false)],[]⟩)
theorem j1r (a0:GReg) (a1:GReg) (s2:Int) (r) (h:qn8 a0 a1 s2=some r):jy pr quf (qpq a0 a1) (qp6 a0 a1) s2 r:=by
 unfold qn8 at h
 repeat' first | (replace h:=qb h; obtain ⟨d,g,h⟩:=h; with_reducible first | replace g:=W62 g | skip) | (replace h:=qd h; rcases h with ⟨g,h⟩ | ⟨g,h⟩) | fail
 all_goals (cases h <;> (first | (refine jb ?_; simp only [go_sem,seval,quf,qpq,qv,qp6,*] <;> rfl) | (refine js ?_; simp only [go_sem,seval,quf,qpq,qv,qp6,*] <;> rfl)))
theorem jzq (a0:GReg) (a1:GReg) {s2:Int} {d} (h:itO (qn8 a0 a1) s2=some d):X pr (.loop quf) (qpq a0 a1 s2)=some (qp6 a0 a1 d):=zf (j1r a0 a1) (fun d=>by rcases d with d|d <;> (intro hh; cases hh)) h
noncomputable def f13 (a0:GReg) (a1:GReg):Option Bool:=
 cond (decide (a0.day=a1.day))
  (cond (decide (((a0.lots.getD []).length:Int)=((a1.lots.getD []).length:Int)))
   (cond (decide (((a0.products.getD []).length:Int)=((a1.products.getD []).length:Int)))
    (cond (decide (((a0.units.getD []).length:Int)=((a1.units.getD []).length:Int)))
     (qa (itO (qnt a0 a1) 0) fun d23=>match d23 with
      | .inl d25=>
       some false
      | .inr d26=>
       qa (itO (qn7 a0 a1) 0) fun d51=>match d51 with
        | .inl d53=>
         some false
        | .inr d54=>
         qa (itO (qn8 a0 a1) 0) fun d79=>match d79 with
          | .inl d81=>
           some false
          | .inr d82=>
           some true)
     (some false))
    (some false))
   (some false))
  (some false)
theorem W13 {a0:GReg} {a1:GReg} {r} (h:f13 a0 a1=some r):qc pr (X pr) 13 [aR a0,aR a1]=some (.bool r,false):=by
 unfold f13 at h
 refine zg c13 ?_
 repeat' first | (replace h:=qb h; obtain ⟨d,g,h⟩:=h; with_reducible first | (replace g:=jx5 a0 a1 g; rcases d with d | d <;> dsimp only [qrc,qqc,zi] at g h) | (replace g:=j0x a0 a1 g; rcases d with d | d <;> dsimp only [qo5,qpg,zi] at g h) | (replace g:=jzq a0 a1 g; rcases d with d | d <;> dsimp only [qpq,qp6,zi] at g h) | skip) | (replace h:=qd h; rcases h with ⟨g,h⟩ | ⟨g,h⟩) | fail
 all_goals (cases h <;> (simp only [go_sem,seval,c13,*]; exact ⟨_,rfl⟩))
noncomputable def f60 (a0:List UInt8):Option qf5:=
 cond (decide (a0=([108,111,116]:List UInt8)))
  (some (⟨2,2,true⟩))
  (cond (decide (a0=([112,114,111,100,117,99,116]:List UInt8)))
   (some (⟨1,1,true⟩))
   (cond (decide (a0=([105,115,115,117,101]:List UInt8)))
    (some (⟨1,1,true⟩))
    (cond (decide (a0=([117,112,100,97,116,101]:List UInt8)))
     (some (⟨1,1,true⟩))
     (cond (decide (a0=([104,111,108,100]:List UInt8)))
      (some (⟨1,1,true⟩))
      (cond (decide (a0=([102,114,101,101]:List UInt8)))
       (some (⟨1,1,true⟩))
       (cond (decide (a0=([115,104,105,112]:List UInt8)))
        (some (⟨1,1,true⟩))
        (cond (decide (a0=([99,111,109,112,108,97,105,110]:List UInt8)))
         (some (⟨1,1,true⟩))
         (cond (decide (a0=([110,101,101,100]:List UInt8)))
          (some (⟨2,2,true⟩))
          (cond (decide (a0=([117,115,101]:List UInt8)))
           (some (⟨2,2,true⟩))
           (cond (decide (a0=([109,101,97,115,117,114,101]:List UInt8)))
            (some (⟨2,2,true⟩))
            (cond (decide (a0=([116,101,115,116]:List UInt8)))
             (some (⟨2,3,true⟩))
             (cond (decide (a0=([98,117,105,108,100]:List UInt8)))
              (some (⟨2,1,true⟩))
              (cond (decide (a0=([112,97,105,114]:List UInt8)))
               (some (⟨2,1,true⟩))
               (cond (decide (a0=([117,110,100,111]:List UInt8)))
                (some (⟨0,0,true⟩))
                (some (⟨0,0,false⟩))))))))))))))))
theorem W60 {a0:List UInt8} {r} (h:f60 a0=some r):qc pr (X pr) 60 [.str a0]=some (.agg [Iv r.names,Iv r.values,.bool r.known],false):=by
 unfold f60 at h
 refine zg c60 ?_
 repeat' first | (replace h:=qd h; rcases h with ⟨g,h⟩ | ⟨g,h⟩) | fail
 all_goals (cases h <;> (simp only [go_sem,seval,c60,*]; exact ⟨_,rfl⟩))
noncomputable def qns (a0:GEv) (v4:qf5) (s0:Int):Option (Int ⊕ (Unit ⊕ Int)):=
 cond (decide (s0 < v4.names))
  (qa (qw (a0.names.getD []) s0) fun v22=>
  qa (f26 v22) fun v24=>
  cond v24
   (some (.inl (qe .i64 (s0 + 1))))
   (some (.inr (.inl ()))))
  (some (.inr (.inr s0)))
def qri (a0:GEv) (v4:qf5) (s0:Int):ASt:=⟨[(1,.vptr (aE a0),false),(3,.vptr (.agg [Iv v4.names,Iv v4.values,.bool true]),false),(4,Iv s0,false)],[]⟩
def qoy (a0:GEv) (v4:qf5):Unit ⊕ Int→jd × ASt
 | .inl d=>(.ret,⟨[(2,Iv 8,false)],[]⟩)
 | .inr d=>(.exit 0,⟨[(1,.vptr (aE a0),false),(3,.vptr (.agg [Iv v4.names,Iv v4.values,.bool true]),false),(4,Iv d,false),(32,.bool false,false)],[]⟩)
theorem j0v (a0:GEv) (v4:qf5) (s0:Int) (r) (h:qns a0 v4 s0=some r):jy pr qt2 (qri a0 v4) (qoy a0 v4) s0 r:=by
 unfold qns at h
 repeat' first | (replace h:=qb h; obtain ⟨d,g,h⟩:=h; with_reducible first | replace g:=W26 g | skip) | (replace h:=qd h; rcases h with ⟨g,h⟩ | ⟨g,h⟩) | fail
 all_goals (cases h <;> (first | (refine jb ?_; simp only [go_sem,seval,qt2,qri,qv,qoy,*] <;> rfl) | (refine js ?_; simp only [go_sem,seval,qt2,qri,qv,qoy,*] <;> rfl)))
theorem jyj (a0:GEv) (v4:qf5) {s0:Int} {d} (h:itO (qns a0 v4) s0=some d):X pr (.loop qt2) (qri a0 v4 s0)=some (qoy a0 v4 d):=zf (j0v a0 v4) (fun d=>by rcases d with d|d <;> (intro hh; cases hh)) h
noncomputable def qnd (a0:GEv) (v4:qf5) (s1:Int):Option (Int ⊕ (Unit ⊕ Int)):=
 cond (decide (s1 < v4.values))
  (qa (qw (a0.values.getD []) s1) fun v44=>
  qa (f59 v44 0 999999999) fun v46=>
  cond v46
   (some (.inr (.inl ())))
   (some (.inl (qe .i64 (s1 + 1)))))
  (some (.inr (.inr s1)))
def qpk (a0:GEv) (v4:qf5) (s1:Int):ASt:=⟨[(1,.vptr (aE a0),false),(3,.vptr (.agg [Iv v4.names,Iv v4.values,.bool true]),false),(5,Iv s1,false)],[]⟩
def qpi (a0:GEv) (v4:qf5):Unit ⊕ Int→jd × ASt
 | .inl d=>(.ret,⟨[(2,Iv 3,false)],[]⟩)
 | .inr d=>(.exit 2,⟨[(1,.vptr (aE a0),false),(3,.vptr (.agg [Iv v4.names,Iv v4.values,.bool true]),false),(5,Iv d,false),(45,.bool false,false)],[]⟩)
theorem j3e (a0:GEv) (v4:qf5) (s1:Int) (r) (h:qnd a0 v4 s1=some r):jy pr quq (qpk a0 v4) (qpi a0 v4) s1 r:=by
 unfold qnd at h
 repeat' first | (replace h:=qb h; obtain ⟨d,g,h⟩:=h; with_reducible first | replace g:=W59 g | skip) | (replace h:=qd h; rcases h with ⟨g,h⟩ | ⟨g,h⟩) | fail
 all_goals (cases h <;> (first | (refine jb ?_; simp only [go_sem,seval,quq,qpk,qv,qpi,*] <;> rfl) | (refine js ?_; simp only [go_sem,seval,quq,qpk,qv,qpi,*] <;> rfl)))
theorem j2i (a0:GEv) (v4:qf5) {s1:Int} {d} (h:itO (qnd a0 v4) s1=some d):X pr (.loop quq) (qpk a0 v4 s1)=some (qpi a0 v4 d):=zf (j3e a0 v4) (fun d=>by rcases d with d|d <;> (intro hh; cases hh)) h
noncomputable def f12 (a0:GEv):Option Int:=
 qa (f59 a0.number 1 1000) fun v1=>
 cond v1
  (some 3)
  (qa (f60 a0.kind) fun v4=>
  cond v4.known
   (cond (decide (((a0.names.getD []).length:Int)=v4.names))
    (cond (decide (((a0.values.getD []).length:Int)=v4.values))
     (qa (itO (qns a0 v4) 0) fun d27=>match d27 with
      | .inl d29=>
       some 8
      | .inr d30=>
       qa (itO (qnd a0 v4) 0) fun d49=>match d49 with
        | .inl d51=>
         some 3
        | .inr d52=>
         cond (decide (a0.text=[]))
          (some 0)
          (some 1))
     (some 2))
    (some 2))
   (some 13))
theorem W12 {a0:GEv} {r} (h:f12 a0=some r):qc pr (X pr) 12 [aE a0]=some (Iv r,false):=by
 unfold f12 at h
 refine zg c12 ?_
 repeat' first | (replace h:=qb h; obtain ⟨d,g,h⟩:=h; with_reducible first | replace g:=W59 g | replace g:=W60 g | (replace g:=jyj a0 _ g; rcases d with d | d <;> dsimp only [qri,qoy,zi] at g h) | (replace g:=j2i a0 _ g; rcases d with d | d <;> dsimp only [qpk,qpi,zi] at g h) | skip) | (replace h:=qd h; rcases h with ⟨g,h⟩ | ⟨g,h⟩) | fail
 all_goals (cases h <;> (simp only [go_sem,seval,c12,*]; exact ⟨_,rfl⟩))
end Go.Z
