/- Chapter 10. -/
import Derived.Test.YtfopaakmgogpiaaGreatDoorW1
import Derived.Test.YtfopaakmgogpiaaGreatDoorAbsL
import Derived.Test.YtfopaakmgogpiaaGreatDoorCA
set_option linter.unusedVariables false
set_option linter.unusedSimpArgs false
set_option maxRecDepth 100000
set_option maxHeartbeats 4000000
namespace Go.Z
open Go Go.Abs Go.W
noncomputable def qpw (a0:GDoc) (s0:Int × (Option (List GSI)) × Bool):Option ((Int × (Option (List GSI)) × Bool) ⊕ ((Int × (Option (List GSI)) × Bool))):=
 cond (decide (s0.1 < ((a0.needs.getD []).length:Int)))
  (qa (qw (a0.needs.getD []) s0.1) fun v14=>
  cond s0.2.2
   (qa (apO s0.2.1 [v14]) fun v17=>
   some (.inl (qe .i64 (s0.1 + 1),v17,true)))
   (cond s0.2.1.isNone
    (qa (apO s0.2.1 [v14]) fun v20=>
    some (.inl (qe .i64 (s0.1 + 1),v20,true)))
    (none)))
  (some (.inr (s0.1,s0.2.1,s0.2.2)))
def qlf (a0:GDoc) (s0:Int × (Option (List GSI)) × Bool):ASt:=⟨[(1,.vptr (aD a0),false),(2,.ptr 0 0,false),(3,.ptr 1 0,false),(9,sl 2 vsi a0.needs,false),(10,Lv a0.needs,false),(11,Iv s0.1,false)],[.cells [(Nl,false),(Nl,false)],.cells [(sl 2 vsi s0.2.1,s0.2.2),(Nl,false)]]⟩
def qlo (a0:GDoc) (d:(Int × (Option (List GSI)) × Bool)):jd × ASt:=(.exit 0,⟨[(1,.vptr (aD a0),false),(2,.ptr 0 0,false),(3,.ptr 1 0,false),(9,sl 2 vsi a0.needs,false),(10,Lv a0.needs,false),(11,Iv d.1,false),(12,.bool false,false)],[.cells [(Nl,false),(Nl,false)],.cells [(sl 2 vsi d.2.1,d.2.2),(Nl,false)]]⟩)
theorem jot (a0:GDoc) (s0:Int × (Option (List GSI)) × Bool) (r) (h:qpw a0 s0=some r):jy pr qq3 (qlf a0) (qlo a0) s0 r:=by
 unfold qpw at h
 repeat' first | (replace h:=qb h; obtain ⟨d,g,h⟩:=h; with_reducible first | replace g:=qgl g | skip) | (replace h:=qd h; rcases h with ⟨g,h⟩ | ⟨g,h⟩) | fail
 all_goals (cases h <;> (first | (refine jb ?_; simp only [go_sem,seval,qq3,qlf,qv,qlo,*] <;> rfl) | (refine js ?_; simp only [go_sem,seval,qq3,qlf,qv,qlo,*] <;> rfl)))
theorem jmp (a0:GDoc) {s0:Int × (Option (List GSI)) × Bool} {d} (h:itO (qpw a0) s0=some d):X pr (.loop qq3) (qlf a0 s0)=some (qlo a0 d):=zf (jot a0) (fun d hh=>by cases hh) h
noncomputable def qpj (a0:GDoc) (d22:Int × (Option (List GSI)) × Bool) (s1:Int × (Option (List qu)) × Bool):Option ((Int × (Option (List qu)) × Bool) ⊕ ((Int × (Option (List qu)) × Bool))):=
 cond (decide (s1.1 < ((a0.tests.getD []).length:Int)))
  (qa (qw (a0.tests.getD []) s1.1) fun v37=>
  cond s1.2.2
   (qa (apO s1.2.1 [v37]) fun v40=>
   some (.inl (qe .i64 (s1.1 + 1),v40,true)))
   (cond s1.2.1.isNone
    (qa (apO s1.2.1 [v37]) fun v43=>
    some (.inl (qe .i64 (s1.1 + 1),v43,true)))
    (none)))
  (some (.inr (s1.1,s1.2.1,s1.2.2)))
def qm0 (a0:GDoc) (d22:Int × (Option (List GSI)) × Bool) (s1:Int × (Option (List qu)) × Bool):ASt:=⟨[(2,.ptr 0 0,false),(3,.ptr 1 0,false),(23,sl 3 je a0.tests,false),(24,Lv a0.tests,false),(25,Iv s1.1,false)],[.cells [(Nl,false),(Nl,false)],.cells [(sl 2 vsi d22.2.1,d22.2.2),(sl 3 je s1.2.1,s1.2.2)]]⟩
def ql9 (a0:GDoc) (d22:Int × (Option (List GSI)) × Bool) (d:(Int × (Option (List qu)) × Bool)):jd × ASt:=(.exit 2,⟨[(2,.ptr 0 0,false),(3,.ptr 1 0,false),(23,sl 3 je a0.tests,false),(24,Lv a0.tests,false),(25,Iv d.1,false),(26,.bool false,false)],[.cells [(Nl,false),(Nl,false)],.cells [(sl 2 vsi d22.2.1,d22.2.2),(sl 3 je d.2.1,d.2.2)]]⟩)
theorem jqs (a0:GDoc) (d22:Int × (Option (List GSI)) × Bool) (s1:Int × (Option (List qu)) × Bool) (r) (h:qpj a0 d22 s1=some r):jy pr qq0 (qm0 a0 d22) (ql9 a0 d22) s1 r:=by
 unfold qpj at h
 repeat' first | (replace h:=qb h; obtain ⟨d,g,h⟩:=h; with_reducible first | replace g:=qfq g | skip) | (replace h:=qd h; rcases h with ⟨g,h⟩ | ⟨g,h⟩) | fail
 all_goals (cases h <;> (first | (refine jb ?_; simp only [go_sem,seval,qq0,qm0,qv,ql9,*] <;> rfl) | (refine js ?_; simp only [go_sem,seval,qq0,qm0,qv,ql9,*] <;> rfl)))
theorem jqb (a0:GDoc) (d22:Int × (Option (List GSI)) × Bool) {s1:Int × (Option (List qu)) × Bool} {d} (h:itO (qpj a0 d22) s1=some d):X pr (.loop qq0) (qm0 a0 d22 s1)=some (ql9 a0 d22 d):=zf (jqs a0 d22) (fun d hh=>by cases hh) h
noncomputable def f120 (a0:GDoc):Option GDoc:=
 qa (itO (qpw a0) (0,none,false)) fun d22=>
 qa (itO (qpj a0 d22) (0,none,false)) fun d45=>
 some (⟨d22.2.1,d45.2.1⟩)
theorem jmi {a0:GDoc} {r} (h:f120 a0=some r):qc pr (X pr) 120 [aD a0]=some (aD r,false):=by
 unfold f120 at h
 refine zg c120 ?_
 repeat' first | (replace h:=qb h; obtain ⟨d,g,h⟩:=h; with_reducible first | (replace g:=jmp a0 g; dsimp only [qlf,qlo,zi] at g h) | (replace g:=jqb a0 _ g; dsimp only [qm0,ql9,zi] at g h) | skip) | (replace h:=qd h; rcases h with ⟨g,h⟩ | ⟨g,h⟩) | fail
 all_goals (cases h <;> (simp only [go_sem,seval,c120,*]; exact ⟨_,rfl⟩))
noncomputable def qvc (a0:GProd) (v1:GDoc) (s0:Int × (Option (List GDoc)) × Bool):Option ((Int × (Option (List GDoc)) × Bool) ⊕ ((Int × (Option (List GDoc)) × Bool))):=
 cond (decide (s0.1 < ((a0.docs.getD []).length:Int)))
  (qa (qw (a0.docs.getD []) s0.1) fun v20=>
  qa (f120 v20) fun v22=>
  cond s0.2.2
   (qa (apO s0.2.1 [v22]) fun v25=>
   some (.inl (qe .i64 (s0.1 + 1),v25,true)))
   (cond s0.2.1.isNone
    (qa (apO s0.2.1 [v22]) fun v28=>
    some (.inl (qe .i64 (s0.1 + 1),v28,true)))
    (none)))
  (some (.inr (s0.1,s0.2.1,s0.2.2)))
def qqr (a0:GProd) (v1:GDoc) (s0:Int × (Option (List GDoc)) × Bool):ASt:=⟨[(2,.ptr 0 0,false),(3,.ptr 1 0,false),(13,sl 2 yb a0.docs,false),(14,Lv a0.docs,false),(15,Iv s0.1,false)],[.cells [(.str [],false),(Nl,false),(Nl,false),(Nl,false)],.cells [(.str a0.name,false),(sl 2 vsi v1.needs,false),(sl 3 je v1.tests,false),(sl 2 yb s0.2.1,s0.2.2)]]⟩
def qqg (a0:GProd) (v1:GDoc) (d:(Int × (Option (List GDoc)) × Bool)):jd × ASt:=(.exit 0,⟨[(2,.ptr 0 0,false),(3,.ptr 1 0,false),(13,sl 2 yb a0.docs,false),(14,Lv a0.docs,false),(15,Iv d.1,false),(16,.bool false,false)],[.cells [(.str [],false),(Nl,false),(Nl,false),(Nl,false)],.cells [(.str a0.name,false),(sl 2 vsi v1.needs,false),(sl 3 je v1.tests,false),(sl 2 yb d.2.1,d.2.2)]]⟩)
theorem j2z (a0:GProd) (v1:GDoc) (s0:Int × (Option (List GDoc)) × Bool) (r) (h:qvc a0 v1 s0=some r):jy pr qvh (qqr a0 v1) (qqg a0 v1) s0 r:=by
 unfold qvc at h
 repeat' first | (replace h:=qb h; obtain ⟨d,g,h⟩:=h; with_reducible first | replace g:=jmi g | replace g:=qw9 g | skip) | (replace h:=qd h; rcases h with ⟨g,h⟩ | ⟨g,h⟩) | fail
 all_goals (cases h <;> (first | (refine jb ?_; simp only [go_sem,seval,qvh,qqr,qv,qqg,*] <;> rfl) | (refine js ?_; simp only [go_sem,seval,qvh,qqr,qv,qqg,*] <;> rfl)))
theorem juj (a0:GProd) (v1:GDoc) {s0:Int × (Option (List GDoc)) × Bool} {d} (h:itO (qvc a0 v1) s0=some d):X pr (.loop qvh) (qqr a0 v1 s0)=some (qqg a0 v1 d):=zf (j2z a0 v1) (fun d hh=>by cases hh) h
noncomputable def f63 (a0:GProd):Option GProd:=
 qa (f120 (⟨a0.dn,a0.dt⟩)) fun v1=>
 qa (itO (qvc a0 v1) (0,none,false)) fun d30=>
 some (⟨a0.name,v1.needs,v1.tests,d30.2.1⟩)
theorem W63 {a0:GProd} {r} (h:f63 a0=some r):qc pr (X pr) 63 [aP a0]=some (aP r,false):=by
 unfold f63 at h
 refine zg c63 ?_
 repeat' first | (replace h:=qb h; obtain ⟨d,g,h⟩:=h; with_reducible first | replace g:=jmi g | (replace g:=juj a0 _ g; dsimp only [qqr,qqg,zi] at g h) | skip) | (replace h:=qd h; rcases h with ⟨g,h⟩ | ⟨g,h⟩) | fail
 all_goals (cases h <;> (simp only [go_sem,seval,c63,*]; exact ⟨_,rfl⟩))
noncomputable def qv7 (a0:GUn) (s0:Int × (Option (List GSI)) × Bool):Option ((Int × (Option (List GSI)) × Bool) ⊕ ((Int × (Option (List GSI)) × Bool))):=
 cond (decide (s0.1 < ((a0.uses.getD []).length:Int)))
  (qa (qw (a0.uses.getD []) s0.1) fun v14=>
  cond s0.2.2
   (qa (apO s0.2.1 [v14]) fun v17=>
   some (.inl (qe .i64 (s0.1 + 1),v17,true)))
   (cond s0.2.1.isNone
    (qa (apO s0.2.1 [v14]) fun v20=>
    some (.inl (qe .i64 (s0.1 + 1),v20,true)))
    (none)))
  (some (.inr (s0.1,s0.2.1,s0.2.2)))
def qoq (a0:GUn) (s0:Int × (Option (List GSI)) × Bool):ASt:=⟨[(1,.vptr (aU a0),false),(2,.ptr 0 0,false),(3,.ptr 1 0,false),(22,sl 2 vsi a0.uses,false),(23,Lv a0.uses,false),(24,Iv s0.1,false)],[.cells [(.str [],false),(.str [],false),(Iv 0,false),(Nl,false),(Nl,false),(.str [],false),(.bool false,false),(Iv 0,false)],.cells [(.str a0.name,false),(.str a0.product,false),(Iv a0.version,false),(sl 2 vsi s0.2.1,s0.2.2),(Nl,false),(.str a0.partner,false),(.bool a0.shipped,false),(Iv a0.complaints,false)]]⟩
def qpm (a0:GUn) (d:(Int × (Option (List GSI)) × Bool)):jd × ASt:=(.exit 0,⟨[(1,.vptr (aU a0),false),(2,.ptr 0 0,false),(3,.ptr 1 0,false),(22,sl 2 vsi a0.uses,false),(23,Lv a0.uses,false),(24,Iv d.1,false),(25,.bool false,false)],[.cells [(.str [],false),(.str [],false),(Iv 0,false),(Nl,false),(Nl,false),(.str [],false),(.bool false,false),(Iv 0,false)],.cells [(.str a0.name,false),(.str a0.product,false),(Iv a0.version,false),(sl 2 vsi d.2.1,d.2.2),(Nl,false),(.str a0.partner,false),(.bool a0.shipped,false),(Iv a0.complaints,false)]]⟩)
theorem j1x (a0:GUn) (s0:Int × (Option (List GSI)) × Bool) (r) (h:qv7 a0 s0=some r):jy pr qvv (qoq a0) (qpm a0) s0 r:=by
 unfold qv7 at h
 repeat' first | (replace h:=qb h; obtain ⟨d,g,h⟩:=h; with_reducible first | replace g:=qgl g | skip) | (replace h:=qd h; rcases h with ⟨g,h⟩ | ⟨g,h⟩) | fail
 all_goals (cases h <;> (first | (refine jb ?_; simp only [go_sem,seval,qvv,qoq,qv,qpm,*] <;> rfl) | (refine js ?_; simp only [go_sem,seval,qvv,qoq,qv,qpm,*] <;> rfl)))
theorem jxw (a0:GUn) {s0:Int × (Option (List GSI)) × Bool} {d} (h:itO (qv7 a0) s0=some d):X pr (.loop qvv) (qoq a0 s0)=some (qpm a0 d):=zf (j1x a0) (fun d hh=>by cases hh) h
noncomputable def qvj (a0:GUn) (d22:Int × (Option (List GSI)) × Bool) (s1:Int × (Option (List qu)) × Bool):Option ((Int × (Option (List qu)) × Bool) ⊕ ((Int × (Option (List qu)) × Bool))):=
 cond (decide (s1.1 < ((a0.results.getD []).length:Int)))
  (qa (qw (a0.results.getD []) s1.1) fun v37=>
  cond s1.2.2
   (qa (apO s1.2.1 [v37]) fun v40=>
   some (.inl (qe .i64 (s1.1 + 1),v40,true)))
   (cond s1.2.1.isNone
    (qa (apO s1.2.1 [v37]) fun v43=>
    some (.inl (qe .i64 (s1.1 + 1),v43,true)))
    (none)))
  (some (.inr (s1.1,s1.2.1,s1.2.2)))
def qo1 (a0:GUn) (d22:Int × (Option (List GSI)) × Bool) (s1:Int × (Option (List qu)) × Bool):ASt:=⟨[(2,.ptr 0 0,false),(3,.ptr 1 0,false),(36,sl 3 je a0.results,false),(37,Lv a0.results,false),(38,Iv s1.1,false)],[.cells [(.str [],false),(.str [],false),(Iv 0,false),(Nl,false),(Nl,false),(.str [],false),(.bool false,false),(Iv 0,false)],.cells [(.str a0.name,false),(.str a0.product,false),(Iv a0.version,false),(sl 2 vsi d22.2.1,d22.2.2),(sl 3 je s1.2.1,s1.2.2),(.str a0.partner,false),(.bool a0.shipped,false),(Iv a0.complaints,false)]]⟩
def qqn (a0:GUn) (d22:Int × (Option (List GSI)) × Bool) (d:(Int × (Option (List qu)) × Bool)):jd × ASt:=(.exit 2,⟨[(2,.ptr 0 0,false),(3,.ptr 1 0,false),(36,sl 3 je a0.results,false),(37,Lv a0.results,false),(38,Iv d.1,false),(39,.bool false,false)],[.cells [(.str [],false),(.str [],false),(Iv 0,false),(Nl,false),(Nl,false),(.str [],false),(.bool false,false),(Iv 0,false)],.cells [(.str a0.name,false),(.str a0.product,false),(Iv a0.version,false),(sl 2 vsi d22.2.1,d22.2.2),(sl 3 je d.2.1,d.2.2),(.str a0.partner,false),(.bool a0.shipped,false),(Iv a0.complaints,false)]]⟩)
theorem j40 (a0:GUn) (d22:Int × (Option (List GSI)) × Bool) (s1:Int × (Option (List qu)) × Bool) (r) (h:qvj a0 d22 s1=some r):jy pr qwi (qo1 a0 d22) (qqn a0 d22) s1 r:=by
 unfold qvj at h
 repeat' first | (replace h:=qb h; obtain ⟨d,g,h⟩:=h; with_reducible first | replace g:=qfq g | skip) | (replace h:=qd h; rcases h with ⟨g,h⟩ | ⟨g,h⟩) | fail
 all_goals (cases h <;> (first | (refine jb ?_; simp only [go_sem,seval,qwi,qo1,qv,qqn,*] <;> rfl) | (refine js ?_; simp only [go_sem,seval,qwi,qo1,qv,qqn,*] <;> rfl)))
theorem j3t (a0:GUn) (d22:Int × (Option (List GSI)) × Bool) {s1:Int × (Option (List qu)) × Bool} {d} (h:itO (qvj a0 d22) s1=some d):X pr (.loop qwi) (qo1 a0 d22 s1)=some (qqn a0 d22 d):=zf (j40 a0 d22) (fun d hh=>by cases hh) h
noncomputable def f64 (a0:GUn):Option GUn:=
 qa (itO (qv7 a0) (0,none,false)) fun d22=>
 qa (itO (qvj a0 d22) (0,none,false)) fun d45=>
 some (⟨a0.name,a0.product,a0.version,d22.2.1,d45.2.1,a0.partner,a0.shipped,a0.complaints⟩)
theorem W64 {a0:GUn} {r} (h:f64 a0=some r):qc pr (X pr) 64 [aU a0]=some (aU r,false):=by
 unfold f64 at h
 refine zg c64 ?_
 repeat' first | (replace h:=qb h; obtain ⟨d,g,h⟩:=h; with_reducible first | (replace g:=jxw a0 g; dsimp only [qoq,qpm,zi] at g h) | (replace g:=j3t a0 _ g; dsimp only [qo1,qqn,zi] at g h) | skip) | (replace h:=qd h; rcases h with ⟨g,h⟩ | ⟨g,h⟩) | fail
 all_goals (cases h <;> (simp only [go_sem,seval,c64,*]; exact ⟨_,rfl⟩))
noncomputable def qvx (a0:GReg) (s0:Int × (Option (List qt)) × Bool):Option ((Int × (Option (List qt)) × Bool) ⊕ ((Int × (Option (List qt)) × Bool))):=
 cond (decide (s0.1 < ((a0.lots.getD []).length:Int)))
  (qa (qw (a0.lots.getD []) s0.1) fun v14=>
  cond s0.2.2
   (qa (apO s0.2.1 [v14]) fun v17=>
   some (.inl (qe .i64 (s0.1 + 1),v17,true)))
   (cond s0.2.1.isNone
    (qa (apO s0.2.1 [v14]) fun v20=>
    some (.inl (qe .i64 (s0.1 + 1),v20,true)))
    (none)))
  (some (.inr (s0.1,s0.2.1,s0.2.2)))
def qq2 (a0:GReg) (s0:Int × (Option (List qt)) × Bool):ASt:=⟨[(1,.vptr (aR a0),false),(2,.ptr 0 0,false),(3,.ptr 1 0,false),(14,sl 5 jg a0.lots,false),(15,Lv a0.lots,false),(16,Iv s0.1,false)],[kZ,.cells [(Iv a0.day,false),(sl 5 jg s0.2.1,s0.2.2),(Nl,false),(Nl,false)]]⟩
def qox (a0:GReg) (d:(Int × (Option (List qt)) × Bool)):jd × ASt:=(.exit 0,⟨[(1,.vptr (aR a0),false),(2,.ptr 0 0,false),(3,.ptr 1 0,false),(14,sl 5 jg a0.lots,false),(15,Lv a0.lots,false),(16,Iv d.1,false),(17,.bool false,false)],[kZ,.cells [(Iv a0.day,false),(sl 5 jg d.2.1,d.2.2),(Nl,false),(Nl,false)]]⟩)
theorem jy2 (a0:GReg) (s0:Int × (Option (List qt)) × Bool) (r) (h:qvx a0 s0=some r):jy pr qwv (qq2 a0) (qox a0) s0 r:=by
 unfold qvx at h
 repeat' first | (replace h:=qb h; obtain ⟨d,g,h⟩:=h; with_reducible first | replace g:=qse g | skip) | (replace h:=qd h; rcases h with ⟨g,h⟩ | ⟨g,h⟩) | fail
 all_goals (cases h <;> (first | (refine jb ?_; simp only [go_sem,seval,qwv,qq2,qv,qox,*] <;> rfl) | (refine js ?_; simp only [go_sem,seval,qwv,qq2,qv,qox,*] <;> rfl)))
theorem j23 (a0:GReg) {s0:Int × (Option (List qt)) × Bool} {d} (h:itO (qvx a0) s0=some d):X pr (.loop qwv) (qq2 a0 s0)=some (qox a0 d):=zf (jy2 a0) (fun d hh=>by cases hh) h
noncomputable def qve (a0:GReg) (d22:Int × (Option (List qt)) × Bool) (s1:Int × (Option (List GProd)) × Bool):Option ((Int × (Option (List GProd)) × Bool) ⊕ ((Int × (Option (List GProd)) × Bool))):=
 cond (decide (s1.1 < ((a0.products.getD []).length:Int)))
  (qa (qw (a0.products.getD []) s1.1) fun v41=>
  qa (f63 v41) fun v43=>
  cond s1.2.2
   (qa (apO s1.2.1 [v43]) fun v46=>
   some (.inl (qe .i64 (s1.1 + 1),v46,true)))
   (cond s1.2.1.isNone
    (qa (apO s1.2.1 [v43]) fun v49=>
    some (.inl (qe .i64 (s1.1 + 1),v49,true)))
    (none)))
  (some (.inr (s1.1,s1.2.1,s1.2.2)))
def qp8 (a0:GReg) (d22:Int × (Option (List qt)) × Bool) (s1:Int × (Option (List GProd)) × Bool):ASt:=⟨[(1,.vptr (aR a0),false),(2,.ptr 0 0,false),(3,.ptr 1 0,false),(28,sl 4 qz a0.products,false),(29,Lv a0.products,false),(30,Iv s1.1,false)],[kZ,.cells [(Iv a0.day,false),(sl 5 jg d22.2.1,d22.2.2),(sl 4 qz s1.2.1,s1.2.2),(Nl,false)]]⟩
def qqs (a0:GReg) (d22:Int × (Option (List qt)) × Bool) (d:(Int × (Option (List GProd)) × Bool)):jd × ASt:=(.exit 2,⟨[(1,.vptr (aR a0),false),(2,.ptr 0 0,false),(3,.ptr 1 0,false),(28,sl 4 qz a0.products,false),(29,Lv a0.products,false),(30,Iv d.1,false),(31,.bool false,false)],[kZ,.cells [(Iv a0.day,false),(sl 5 jg d22.2.1,d22.2.2),(sl 4 qz d.2.1,d.2.2),(Nl,false)]]⟩)
theorem j2d (a0:GReg) (d22:Int × (Option (List qt)) × Bool) (s1:Int × (Option (List GProd)) × Bool) (r) (h:qve a0 d22 s1=some r):jy pr qt6 (qp8 a0 d22) (qqs a0 d22) s1 r:=by
 unfold qve at h
 repeat' first | (replace h:=qb h; obtain ⟨d,g,h⟩:=h; with_reducible first | replace g:=W63 g | replace g:=qtt g | skip) | (replace h:=qd h; rcases h with ⟨g,h⟩ | ⟨g,h⟩) | fail
 all_goals (cases h <;> (first | (refine jb ?_; simp only [go_sem,seval,qt6,qp8,qv,qqs,*] <;> rfl) | (refine js ?_; simp only [go_sem,seval,qt6,qp8,qv,qqs,*] <;> rfl)))
theorem jw9 (a0:GReg) (d22:Int × (Option (List qt)) × Bool) {s1:Int × (Option (List GProd)) × Bool} {d} (h:itO (qve a0 d22) s1=some d):X pr (.loop qt6) (qp8 a0 d22 s1)=some (qqs a0 d22 d):=zf (j2d a0 d22) (fun d hh=>by cases hh) h
noncomputable def qu6 (a0:GReg) (d22:Int × (Option (List qt)) × Bool) (d51:Int × (Option (List GProd)) × Bool) (s2:Int × (Option (List GUn)) × Bool):Option ((Int × (Option (List GUn)) × Bool) ⊕ ((Int × (Option (List GUn)) × Bool))):=
 cond (decide (s2.1 < ((a0.units.getD []).length:Int)))
  (qa (qw (a0.units.getD []) s2.1) fun v70=>
  qa (f64 v70) fun v72=>
  cond s2.2.2
   (qa (apO s2.2.1 [v72]) fun v75=>
   some (.inl (qe .i64 (s2.1 + 1),v75,true)))
   (cond s2.2.1.isNone
    (qa (apO s2.2.1 [v72]) fun v78=>
    some (.inl (qe .i64 (s2.1 + 1),v78,true)))
    (none)))
  (some (.inr (s2.1,s2.2.1,s2.2.2)))
def qqq (a0:GReg) (d22:Int × (Option (List qt)) × Bool) (d51:Int × (Option (List GProd)) × Bool) (s2:Int × (Option (List GUn)) × Bool):ASt:=⟨[(2,.ptr 0 0,false),(3,.ptr 1 0,false),(43,sl 8 vun a0.units,false),(44,Lv a0.units,false),(45,Iv s2.1,false)],[kZ,.cells [(Iv a0.day,false),(sl 5 jg d22.2.1,d22.2.2),(sl 4 qz d51.2.1,d51.2.2),(sl 8 vun s2.2.1,s2.2.2)]]⟩
def qpd (a0:GReg) (d22:Int × (Option (List qt)) × Bool) (d51:Int × (Option (List GProd)) × Bool) (d:(Int × (Option (List GUn)) × Bool)):jd × ASt:=(.exit 4,⟨[(2,.ptr 0 0,false),(3,.ptr 1 0,false),(43,sl 8 vun a0.units,false),(44,Lv a0.units,false),(45,Iv d.1,false),(46,.bool false,false)],[kZ,.cells [(Iv a0.day,false),(sl 5 jg d22.2.1,d22.2.2),(sl 4 qz d51.2.1,d51.2.2),(sl 8 vun d.2.1,d.2.2)]]⟩)
theorem j19 (a0:GReg) (d22:Int × (Option (List qt)) × Bool) (d51:Int × (Option (List GProd)) × Bool) (s2:Int × (Option (List GUn)) × Bool) (r) (h:qu6 a0 d22 d51 s2=some r):jy pr qu3 (qqq a0 d22 d51) (qpd a0 d22 d51) s2 r:=by
 unfold qu6 at h
 repeat' first | (replace h:=qb h; obtain ⟨d,g,h⟩:=h; with_reducible first | replace g:=W64 g | replace g:=q1f g | skip) | (replace h:=qd h; rcases h with ⟨g,h⟩ | ⟨g,h⟩) | fail
 all_goals (cases h <;> (first | (refine jb ?_; simp only [go_sem,seval,qu3,qqq,qv,qpd,*] <;> rfl) | (refine js ?_; simp only [go_sem,seval,qu3,qqq,qv,qpd,*] <;> rfl)))
theorem j0l (a0:GReg) (d22:Int × (Option (List qt)) × Bool) (d51:Int × (Option (List GProd)) × Bool) {s2:Int × (Option (List GUn)) × Bool} {d} (h:itO (qu6 a0 d22 d51) s2=some d):X pr (.loop qu3) (qqq a0 d22 d51 s2)=some (qpd a0 d22 d51 d):=zf (j19 a0 d22 d51) (fun d hh=>by cases hh) h
noncomputable def f14 (a0:GReg):Option GReg:=
 qa (itO (qvx a0) (0,none,false)) fun d22=>
 qa (itO (qve a0 d22) (0,none,false)) fun d51=>
 qa (itO (qu6 a0 d22 d51) (0,none,false)) fun d80=>
 some (⟨a0.day,d22.2.1,d51.2.1,d80.2.1⟩)
theorem W14 {a0:GReg} {r} (h:f14 a0=some r):qc pr (X pr) 14 [aR a0]=some (aR r,false):=by
 unfold f14 at h
 refine zg c14 ?_
 repeat' first | (replace h:=qb h; obtain ⟨d,g,h⟩:=h; with_reducible first | (replace g:=j23 a0 g; dsimp only [qq2,qox,zi] at g h) | (replace g:=jw9 a0 _ g; dsimp only [qp8,qqs,zi] at g h) | (replace g:=j0l a0 _ _ g; dsimp only [qqq,qpd,zi] at g h) | skip) | (replace h:=qd h; rcases h with ⟨g,h⟩ | ⟨g,h⟩) | fail
 all_goals (cases h <;> (simp only [go_sem,seval,c14,*]; exact ⟨_,rfl⟩))
end Go.Z
namespace Go.Z
open Go Go.Abs Go.W
noncomputable def f59 (a0:Int) (a1:Int) (a2:Int):Option Bool:=
 cond (decide (a0 < a1))
  (some true)
  (some (decide (a2 < a0)))
theorem W59 {a0:Int} {a1:Int} {a2:Int} {r} (h:f59 a0 a1 a2=some r):qc pr (X pr) 59 [Iv a0,Iv a1,Iv a2]=some (.bool r,false):=by
 unfold f59 at h
 refine zg c59 ?_
 repeat' first | (replace h:=qd h; rcases h with ⟨g,h⟩ | ⟨g,h⟩) | fail
 all_goals (cases h <;> (simp only [go_sem,seval,c59,*]; exact ⟨_,rfl⟩))
end Go.Z
