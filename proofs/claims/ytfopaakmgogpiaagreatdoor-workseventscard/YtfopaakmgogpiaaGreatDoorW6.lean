/- Chapter 10. -/
import Derived.Test.YtfopaakmgogpiaaGreatDoorW1
import Derived.Test.YtfopaakmgogpiaaGreatDoorAbsL
import Derived.Test.YtfopaakmgogpiaaGreatDoorCA
set_option linter.unusedVariables false
set_option linter.unusedSimpArgs false
set_option maxRecDepth 100000
set_option maxHeartbeats 4000000
namespace Go.Z
open Go Go.Abs Go.W
noncomputable def f131 (a0:Int) (a1:GReg) (a2:List UInt8):Option Bool:=
 qa (qw (a1.lots.getD []) a0) fun v1=>
 some (decide (v1.name=a2))
theorem j8r (hp:qf) {a0:Int} {a1:GReg} {a2:List UInt8} {r} (h:f131 a0 a1 a2=some r):qn pr (X pr) 131 [Iv a0,.vptr (aR a1),.vptr (.str a2)] hp=some (.bool r,false,hp):=by
 unfold f131 at h
 obtain ⟨v1,h2,h⟩:=qb h
 have hr:decide (v1.name=a2)=r:=Option.some.inj h
 subst hr
 rw [qk (show pr.fns 131=some c131 from rfl) (by simp)]
 simp only [go_sem,seval,c131,zj h2] <;> rfl
noncomputable def qli (a0:Int) (a1c0:GReg) (a1c1:List UInt8) (s0:Int):Option (Int ⊕ (Int ⊕ Int)):=
 cond (decide (s0 < a0))
  (qa (f131 s0 a1c0 a1c1) fun v10=>
  cond v10
   (some (.inr (.inl s0)))
   (some (.inl (qe .i64 (s0 + 1)))))
  (some (.inr (.inr s0)))
def qjm (a0:Int) (a1c0:GReg) (a1c1:List UInt8) (s0:Int):ASt:=⟨[(1,.fn (.func 131) [] [.vptr (aR a1c0),.vptr (.str a1c1)],false),(5,Iv (-1),false),(7,Iv a0,false),(8,Iv s0,false)],[]⟩
def qjz (a0:Int) (a1c0:GReg) (a1c1:List UInt8):Int ⊕ Int→jd × ASt
 | .inl d=>(.exit 0,⟨[(5,Iv d,false)],[]⟩)
 | .inr d=>(.exit 0,⟨[(1,.fn (.func 131) [] [.vptr (aR a1c0),.vptr (.str a1c1)],false),(5,Iv (-1),false),(7,Iv a0,false),(8,Iv d,false),(9,.bool false,false)],[]⟩)
theorem jk6 (a0:Int) (a1c0:GReg) (a1c1:List UInt8) (s0:Int) (r) (h:qli a0 a1c0 a1c1 s0=some r):jy pr qc1 (qjm a0 a1c0 a1c1) (qjz a0 a1c0 a1c1) s0 r:=by
 unfold qli at h
 repeat' first | (replace h:=qb h; obtain ⟨d,g,h⟩:=h; with_reducible first | replace g:=j8r [] g | skip) | (replace h:=qd h; rcases h with ⟨g,h⟩ | ⟨g,h⟩) | fail
 all_goals (cases h <;> (first | (refine jb ?_; simp only [go_sem,seval,qc1,qjm,qjz,*] <;> rfl) | (refine js ?_; simp only [go_sem,seval,qc1,qjm,qjz,*] <;> rfl)))
theorem jlq (a0:Int) (a1c0:GReg) (a1c1:List UInt8) {s0:Int} {d} (h:itO (qli a0 a1c0 a1c1) s0=some d):X pr (.loop qc1) (qjm a0 a1c0 a1c1 s0)=some (qjz a0 a1c0 a1c1 d):=zf (jk6 a0 a1c0 a1c1) (fun d=>by rcases d with d|d <;> (intro hh; cases hh)) h
noncomputable def qu1 (a0:Int) (a1c0:GReg) (a1c1:List UInt8):Option Int:=
 qa (itO (qli a0 a1c0 a1c1) 0) fun d13=>match d13 with
  | .inl d15=>
   some d15
  | .inr d16=>
   some (-1)
theorem j06 {a0:Int} {a1c0:GReg} {a1c1:List UInt8} {r} (h:qu1 a0 a1c0 a1c1=some r):qc pr (X pr) 130 [Iv a0,.fn (.func 131) [] [.vptr (aR a1c0),.vptr (.str a1c1)]]=some (Iv r,false):=by
 unfold qu1 at h
 refine zg c130 ?_
 repeat' first | (replace h:=qb h; obtain ⟨d,g,h⟩:=h; with_reducible first | (replace g:=jlq a0 a1c0 a1c1 g; rcases d with d | d <;> dsimp only [qjm,qjz,zi] at g h) | skip) | (replace h:=qd h; rcases h with ⟨g,h⟩ | ⟨g,h⟩) | fail
 all_goals (cases h <;> (simp only [go_sem,seval,c130,*]; exact ⟨_,rfl⟩))
noncomputable def f72 (a0:GReg) (a1:List UInt8):Option Int:=
 qa (qu1 ((a0.lots.getD []).length:Int) a0 a1) fun v1=>
 some v1
theorem W72 {a0:GReg} {a1:List UInt8} {r} (h:f72 a0 a1=some r):qc pr (X pr) 72 [aR a0,.str a1]=some (Iv r,false):=by
 unfold f72 at h
 refine zg c72 ?_
 repeat' first | (replace h:=qb h; obtain ⟨d,g,h⟩:=h; with_reducible first | replace g:=j06 g | skip) | (replace h:=qd h; rcases h with ⟨g,h⟩ | ⟨g,h⟩) | fail
 all_goals (cases h <;> (simp only [go_sem,seval,c72,*]; exact ⟨_,rfl⟩))
noncomputable def f233 (a0:Int) (a1:GReg) (a2:List UInt8):Option Bool:=
 qa (qw (a1.products.getD []) a0) fun v1=>
 some (decide (v1.name=a2))
theorem zbg (hp:qf) {a0:Int} {a1:GReg} {a2:List UInt8} {r} (h:f233 a0 a1 a2=some r):qn pr (X pr) 233 [Iv a0,.vptr (aR a1),.vptr (.str a2)] hp=some (.bool r,false,hp):=by
 unfold f233 at h
 obtain ⟨v1,h2,h⟩:=qb h
 have hr:decide (v1.name=a2)=r:=Option.some.inj h
 subst hr
 rw [qk (show pr.fns 233=some c233 from rfl) (by simp)]
 simp only [go_sem,seval,c233,zj h2] <;> rfl
noncomputable def qlr (a0:Int) (a1c0:GReg) (a1c1:List UInt8) (s0:Int):Option (Int ⊕ (Int ⊕ Int)):=
 cond (decide (s0 < a0))
  (qa (f233 s0 a1c0 a1c1) fun v10=>
  cond v10
   (some (.inr (.inl s0)))
   (some (.inl (qe .i64 (s0 + 1)))))
  (some (.inr (.inr s0)))
def qi4 (a0:Int) (a1c0:GReg) (a1c1:List UInt8) (s0:Int):ASt:=⟨[(1,.fn (.func 233) [] [.vptr (aR a1c0),.vptr (.str a1c1)],false),(5,Iv (-1),false),(7,Iv a0,false),(8,Iv s0,false)],[]⟩
def qje (a0:Int) (a1c0:GReg) (a1c1:List UInt8):Int ⊕ Int→jd × ASt
 | .inl d=>(.exit 0,⟨[(5,Iv d,false)],[]⟩)
 | .inr d=>(.exit 0,⟨[(1,.fn (.func 233) [] [.vptr (aR a1c0),.vptr (.str a1c1)],false),(5,Iv (-1),false),(7,Iv a0,false),(8,Iv d,false),(9,.bool false,false)],[]⟩)
theorem jkm (a0:Int) (a1c0:GReg) (a1c1:List UInt8) (s0:Int) (r) (h:qlr a0 a1c0 a1c1 s0=some r):jy pr qc1 (qi4 a0 a1c0 a1c1) (qje a0 a1c0 a1c1) s0 r:=by
 unfold qlr at h
 repeat' first | (replace h:=qb h; obtain ⟨d,g,h⟩:=h; with_reducible first | replace g:=zbg [] g | skip) | (replace h:=qd h; rcases h with ⟨g,h⟩ | ⟨g,h⟩) | fail
 all_goals (cases h <;> (first | (refine jb ?_; simp only [go_sem,seval,qc1,qi4,qje,*] <;> rfl) | (refine js ?_; simp only [go_sem,seval,qc1,qi4,qje,*] <;> rfl)))
theorem jko (a0:Int) (a1c0:GReg) (a1c1:List UInt8) {s0:Int} {d} (h:itO (qlr a0 a1c0 a1c1) s0=some d):X pr (.loop qc1) (qi4 a0 a1c0 a1c1 s0)=some (qje a0 a1c0 a1c1 d):=zf (jkm a0 a1c0 a1c1) (fun d=>by rcases d with d|d <;> (intro hh; cases hh)) h
noncomputable def qu2 (a0:Int) (a1c0:GReg) (a1c1:List UInt8):Option Int:=
 qa (itO (qlr a0 a1c0 a1c1) 0) fun d13=>match d13 with
  | .inl d15=>
   some d15
  | .inr d16=>
   some (-1)
theorem jxx {a0:Int} {a1c0:GReg} {a1c1:List UInt8} {r} (h:qu2 a0 a1c0 a1c1=some r):qc pr (X pr) 130 [Iv a0,.fn (.func 233) [] [.vptr (aR a1c0),.vptr (.str a1c1)]]=some (Iv r,false):=by
 unfold qu2 at h
 refine zg c130 ?_
 repeat' first | (replace h:=qb h; obtain ⟨d,g,h⟩:=h; with_reducible first | (replace g:=jko a0 a1c0 a1c1 g; rcases d with d | d <;> dsimp only [qi4,qje,zi] at g h) | skip) | (replace h:=qd h; rcases h with ⟨g,h⟩ | ⟨g,h⟩) | fail
 all_goals (cases h <;> (simp only [go_sem,seval,c130,*]; exact ⟨_,rfl⟩))
noncomputable def f165 (a0:GReg) (a1:List UInt8):Option Int:=
 qa (qu2 ((a0.products.getD []).length:Int) a0 a1) fun v1=>
 some v1
theorem qk3 {a0:GReg} {a1:List UInt8} {r} (h:f165 a0 a1=some r):qc pr (X pr) 165 [aR a0,.str a1]=some (Iv r,false):=by
 unfold f165 at h
 refine zg c165 ?_
 repeat' first | (replace h:=qb h; obtain ⟨d,g,h⟩:=h; with_reducible first | replace g:=jxx g | skip) | (replace h:=qd h; rcases h with ⟨g,h⟩ | ⟨g,h⟩) | fail
 all_goals (cases h <;> (simp only [go_sem,seval,c165,*]; exact ⟨_,rfl⟩))
noncomputable def f148 (a0:Int) (a1:GReg) (a2:List UInt8):Option Bool:=
 qa (qw (a1.units.getD []) a0) fun v1=>
 some (decide (v1.name=a2))
theorem zbf (hp:qf) {a0:Int} {a1:GReg} {a2:List UInt8} {r} (h:f148 a0 a1 a2=some r):qn pr (X pr) 148 [Iv a0,.vptr (aR a1),.vptr (.str a2)] hp=some (.bool r,false,hp):=by
 unfold f148 at h
 obtain ⟨v1,h2,h⟩:=qb h
 have hr:decide (v1.name=a2)=r:=Option.some.inj h
 subst hr
 rw [qk (show pr.fns 148=some c148 from rfl) (by simp)]
 simp only [go_sem,seval,c148,zj h2] <;> rfl
noncomputable def qly (a0:Int) (a1c0:GReg) (a1c1:List UInt8) (s0:Int):Option (Int ⊕ (Int ⊕ Int)):=
 cond (decide (s0 < a0))
  (qa (f148 s0 a1c0 a1c1) fun v10=>
  cond v10
   (some (.inr (.inl s0)))
   (some (.inl (qe .i64 (s0 + 1)))))
  (some (.inr (.inr s0)))
def qjy (a0:Int) (a1c0:GReg) (a1c1:List UInt8) (s0:Int):ASt:=⟨[(1,.fn (.func 148) [] [.vptr (aR a1c0),.vptr (.str a1c1)],false),(5,Iv (-1),false),(7,Iv a0,false),(8,Iv s0,false)],[]⟩
def qju (a0:Int) (a1c0:GReg) (a1c1:List UInt8):Int ⊕ Int→jd × ASt
 | .inl d=>(.exit 0,⟨[(5,Iv d,false)],[]⟩)
 | .inr d=>(.exit 0,⟨[(1,.fn (.func 148) [] [.vptr (aR a1c0),.vptr (.str a1c1)],false),(5,Iv (-1),false),(7,Iv a0,false),(8,Iv d,false),(9,.bool false,false)],[]⟩)
theorem ji0 (a0:Int) (a1c0:GReg) (a1c1:List UInt8) (s0:Int) (r) (h:qly a0 a1c0 a1c1 s0=some r):jy pr qc1 (qjy a0 a1c0 a1c1) (qju a0 a1c0 a1c1) s0 r:=by
 unfold qly at h
 repeat' first | (replace h:=qb h; obtain ⟨d,g,h⟩:=h; with_reducible first | replace g:=zbf [] g | skip) | (replace h:=qd h; rcases h with ⟨g,h⟩ | ⟨g,h⟩) | fail
 all_goals (cases h <;> (first | (refine jb ?_; simp only [go_sem,seval,qc1,qjy,qju,*] <;> rfl) | (refine js ?_; simp only [go_sem,seval,qc1,qjy,qju,*] <;> rfl)))
theorem jjg (a0:Int) (a1c0:GReg) (a1c1:List UInt8) {s0:Int} {d} (h:itO (qly a0 a1c0 a1c1) s0=some d):X pr (.loop qc1) (qjy a0 a1c0 a1c1 s0)=some (qju a0 a1c0 a1c1 d):=zf (ji0 a0 a1c0 a1c1) (fun d=>by rcases d with d|d <;> (intro hh; cases hh)) h
noncomputable def que (a0:Int) (a1c0:GReg) (a1c1:List UInt8):Option Int:=
 qa (itO (qly a0 a1c0 a1c1) 0) fun d13=>match d13 with
  | .inl d15=>
   some d15
  | .inr d16=>
   some (-1)
theorem j2e {a0:Int} {a1c0:GReg} {a1c1:List UInt8} {r} (h:que a0 a1c0 a1c1=some r):qc pr (X pr) 130 [Iv a0,.fn (.func 148) [] [.vptr (aR a1c0),.vptr (.str a1c1)]]=some (Iv r,false):=by
 unfold que at h
 refine zg c130 ?_
 repeat' first | (replace h:=qb h; obtain ⟨d,g,h⟩:=h; with_reducible first | (replace g:=jjg a0 a1c0 a1c1 g; rcases d with d | d <;> dsimp only [qjy,qju,zi] at g h) | skip) | (replace h:=qd h; rcases h with ⟨g,h⟩ | ⟨g,h⟩) | fail
 all_goals (cases h <;> (simp only [go_sem,seval,c130,*]; exact ⟨_,rfl⟩))
noncomputable def f93 (a0:GReg) (a1:List UInt8):Option Int:=
 qa (que ((a0.units.getD []).length:Int) a0 a1) fun v1=>
 some v1
theorem W93 {a0:GReg} {a1:List UInt8} {r} (h:f93 a0 a1=some r):qc pr (X pr) 93 [aR a0,.str a1]=some (Iv r,false):=by
 unfold f93 at h
 refine zg c93 ?_
 repeat' first | (replace h:=qb h; obtain ⟨d,g,h⟩:=h; with_reducible first | replace g:=j2e g | skip) | (replace h:=qd h; rcases h with ⟨g,h⟩ | ⟨g,h⟩) | fail
 all_goals (cases h <;> (simp only [go_sem,seval,c93,*]; exact ⟨_,rfl⟩))
noncomputable def f202 (a0:GReg) (a1:Int) (a2:List UInt8):Option Bool:=
 cond (decide (a1=108))
  (qa (f72 a0 a2) fun v2=>
  some (decide (0≤v2)))
  (cond (decide (a1=112))
   (qa (f165 a0 a2) fun v5=>
   some (decide (0≤v5)))
   (cond (decide (a1=117))
    (qa (f93 a0 a2) fun v8=>
    some (decide (0≤v8)))
    (some true)))
theorem jqp {a0:GReg} {a1:Int} {a2:List UInt8} {r} (h:f202 a0 a1 a2=some r):qc pr (X pr) 202 [aR a0,.int .i32 a1,.str a2]=some (.bool r,false):=by
 unfold f202 at h
 refine zg c202 ?_
 repeat' first | (replace h:=qb h; obtain ⟨d,g,h⟩:=h; with_reducible first | replace g:=W72 g | replace g:=qk3 g | replace g:=W93 g | skip) | (replace h:=qd h; rcases h with ⟨g,h⟩ | ⟨g,h⟩) | fail
 all_goals (cases h <;> (simp only [go_sem,seval,c202,*]; exact ⟨_,rfl⟩))
noncomputable def f182 (a0:GProd):Option Int:=
 some ((a0.docs.getD []).length:Int)
theorem jpr {a0:GProd} {r} (h:f182 a0=some r):qc pr (X pr) 182 [aP a0]=some (Iv r,false):=by
 unfold f182 at h
 have hr:((a0.docs.getD []).length:Int)=r:=Option.some.inj h
 subst hr
 have this:∃ hh,qn pr (X pr) 182 [aP a0] []=some (Lv a0.docs,false,hh):=by
  rw [qk (show pr.fns 182=some c182 from rfl) (by simp)]
  simp only [go_sem,seval,c182]
  exact ⟨_,rfl⟩
 obtain ⟨hh,this⟩:=this
 exact zu rfl this (by first | rfl | simp only [go_sem,seval]) (by first | rfl | simp only [go_sem,seval])
noncomputable def f140 (a0:GReg) (a1:GUn):Option Int:=
 qa (f165 a0 a1.product) fun v1=>
 qa (qw (a0.products.getD []) v1) fun v3=>
 qa (f182 v3) fun v5=>
 some v5
theorem jns {a0:GReg} {a1:GUn} {r} (h:f140 a0 a1=some r):qc pr (X pr) 140 [aR a0,aU a1]=some (Iv r,false):=by
 unfold f140 at h
 refine zg c140 ?_
 repeat' first | (replace h:=qb h; obtain ⟨d,g,h⟩:=h; with_reducible first | replace g:=qk3 g | replace g:=jpr g | skip) | (replace h:=qd h; rcases h with ⟨g,h⟩ | ⟨g,h⟩) | fail
 all_goals (cases h <;> (simp only [go_sem,seval,c140,qv,*]; exact ⟨_,rfl⟩))
noncomputable def f134 (a0:GReg) (a1:GUn):Option GDoc:=
 qa (f165 a0 a1.product) fun v1=>
 qa (qw (a0.products.getD []) v1) fun v3=>
 qa (qw (v3.docs.getD []) (qe .i64 (a1.version - 1))) fun v5=>
 some v5
theorem q8t {a0:GReg} {a1:GUn} {r} (h:f134 a0 a1=some r):qc pr (X pr) 134 [aR a0,aU a1]=some (aD r,false):=by
 unfold f134 at h
 refine zg c134 ?_
 repeat' first | (replace h:=qb h; obtain ⟨d,g,h⟩:=h; with_reducible first | replace g:=qk3 g | skip) | (replace h:=qd h; rcases h with ⟨g,h⟩ | ⟨g,h⟩) | fail
 all_goals (cases h <;> (simp only [go_sem,seval,c134,qv,*]; exact ⟨_,rfl⟩))
noncomputable def qjk (a0:GUn) (a1:qu) (s0:Int × (List UInt8) × Int × Int):Option ((Int × (List UInt8) × Int × Int) ⊕ ((Int × (List UInt8) × Int × Int))):=
 cond (decide (s0.1 < ((a0.results.getD []).length:Int)))
  (qa (qw (a0.results.getD []) s0.1) fun v12=>
  cond (decide (v12.k=a1.k))
   (cond (decide (v12.a=a0.version))
    (some (.inl (qe .i64 (s0.1 + 1),v12.k,v12.a,v12.b)))
    (some (.inl (qe .i64 (s0.1 + 1),s0.2.1,s0.2.2.1,s0.2.2.2))))
   (some (.inl (qe .i64 (s0.1 + 1),s0.2.1,s0.2.2.1,s0.2.2.2))))
  (some (.inr (s0.1,s0.2.1,s0.2.2.1,s0.2.2.2)))
def ql7 (a0:GUn) (a1:qu) (s0:Int × (List UInt8) × Int × Int):ASt:=⟨[(2,.vptr (aU a0),false),(3,.vptr (aT a1),false),(5,.ptr 0 0,false),(10,sl 3 je a0.results,false),(11,Lv a0.results,false),(12,Iv s0.1,false)],[.cells [(.str s0.2.1,false),(Iv s0.2.2.1,false),(Iv s0.2.2.2,false)]]⟩
def qme (a0:GUn) (a1:qu) (d:(Int × (List UInt8) × Int × Int)):jd × ASt:=(.exit 0,⟨[(2,.vptr (aU a0),false),(3,.vptr (aT a1),false),(5,.ptr 0 0,false),(10,sl 3 je a0.results,false),(11,Lv a0.results,false),(12,Iv d.1,false),(13,.bool false,false)],[.cells [(.str d.2.1,false),(Iv d.2.2.1,false),(Iv d.2.2.2,false)]]⟩)
theorem joa (a0:GUn) (a1:qu) (s0:Int × (List UInt8) × Int × Int) (r) (h:qjk a0 a1 s0=some r):jy pr qq8 (ql7 a0 a1) (qme a0 a1) s0 r:=by
 unfold qjk at h
 repeat' first | (replace h:=qb h; obtain ⟨d,g,h⟩:=h) | (replace h:=qd h; rcases h with ⟨g,h⟩ | ⟨g,h⟩) | fail
 all_goals (cases h <;> (first | (refine jb ?_; simp only [go_sem,seval,qq8,ql7,qv,qme,*] <;> rfl) | (refine js ?_; simp only [go_sem,seval,qq8,ql7,qv,qme,*] <;> rfl)))
theorem jqd (a0:GUn) (a1:qu) {s0:Int × (List UInt8) × Int × Int} {d} (h:itO (qjk a0 a1) s0=some d):X pr (.loop qq8) (ql7 a0 a1 s0)=some (qme a0 a1 d):=zf (joa a0 a1) (fun d hh=>by cases hh) h
noncomputable def f136 (a0:GUn) (a1:qu):Option Bool:=
 qa (itO (qjk a0 a1) (0,[],(-1),0)) fun d16=>
 cond (decide (d16.2.1=[]) && decide (d16.2.2.1=(-1)) && decide (d16.2.2.2=0))
  (some false)
  (cond (decide (a1.a≤d16.2.2.2))
   (some (decide (d16.2.2.2≤a1.b)))
   (some false))
theorem zav {a0:GUn} {a1:qu} {r} (h:f136 a0 a1=some r):qc pr (X pr) 136 [aU a0,aT a1]=some (.bool r,false):=by
 unfold f136 at h
 refine zg c136 ?_
 repeat' first | (replace h:=qb h; obtain ⟨d,g,h⟩:=h; with_reducible first | (replace g:=jqd a0 a1 g; dsimp only [ql7,qme,zi] at g h) | skip) | (replace h:=qd h; rcases h with ⟨g,h⟩ | ⟨g,h⟩) | fail
 all_goals (cases h <;> (simp only [go_sem,seval,c136,*]; exact ⟨_,rfl⟩))
noncomputable def f135 (a0:qu) (a1:GUn):Option Bool:=
 qa (f136 a1 a0) fun v1=>
 some (!v1)
theorem zd9 (hp:qf) {a0:qu} {a1:GUn} {r} (h:f135 a0 a1=some r):qn pr (X pr) 135 [aT a0,.vptr (aU a1)] hp=some (.bool r,false,hp):=by
 unfold f135 at h
 obtain ⟨v1,h2,h⟩:=qb h
 have wh2:qc pr (X pr) 136 [aU a1,aT a0]=some (.bool v1,false):=zav h2
 have hr:(!v1)=r:=Option.some.inj h
 subst hr
 rw [qk (show pr.fns 135=some c135 from rfl) (by simp)]
 simp only [go_sem,seval,c135,wh2] <;> rfl
noncomputable def qp5 (a0:Option (List qu)) (a1c0:GUn) (s0:(Option (List qu)) × Int × Bool):Option (((Option (List qu)) × Int × Bool) ⊕ (((Option (List qu)) × Bool × Int))):=
 cond (decide (s0.2.1 < ((a0.getD []).length:Int)))
  (qa (qw (a0.getD []) s0.2.1) fun v20=>
  qa (f135 v20 a1c0) fun v22=>
  cond v22
   (cond s0.2.2
    (qa (apO s0.1 [v20]) fun v26=>
    some (.inl (v26,qe .i64 (s0.2.1 + 1),true)))
    (cond s0.1.isNone
     (qa (apO s0.1 [v20]) fun v29=>
     some (.inl (v29,qe .i64 (s0.2.1 + 1),true)))
     (none)))
   (some (.inl (s0.1,qe .i64 (s0.2.1 + 1),s0.2.2))))
  (some (.inr (s0.1,s0.2.2,s0.2.1)))
def qln (a0:Option (List qu)) (a1c0:GUn) (s0:(Option (List qu)) × Int × Bool):ASt:=⟨[(1,.fn (.func 135) [] [.vptr (aU a1c0)],false),(5,sl 3 je s0.1,s0.2.2),(8,sl 3 je a0,false),(9,Lv a0,false),(10,Iv s0.2.1,false)],[]⟩
def qlg (a0:Option (List qu)) (a1c0:GUn) (d:((Option (List qu)) × Bool × Int)):jd × ASt:=(.exit 0,⟨[(1,.fn (.func 135) [] [.vptr (aU a1c0)],false),(5,sl 3 je d.1,d.2.1),(8,sl 3 je a0,false),(9,Lv a0,false),(10,Iv d.2.2,false),(11,.bool false,false)],[]⟩)
theorem jqx (a0:Option (List qu)) (a1c0:GUn) (s0:(Option (List qu)) × Int × Bool) (r) (h:qp5 a0 a1c0 s0=some r):jy pr qp3 (qln a0 a1c0) (qlg a0 a1c0) s0 r:=by
 unfold qp5 at h
 repeat' first | (replace h:=qb h; obtain ⟨d,g,h⟩:=h; with_reducible first | replace g:=zd9 [] g | replace g:=qfq g | skip) | (replace h:=qd h; rcases h with ⟨g,h⟩ | ⟨g,h⟩) | fail
 all_goals (cases h <;> (first | (refine jb ?_; simp only [go_sem,seval,qp3,qln,qv,qlg,*] <;> rfl) | (refine js ?_; simp only [go_sem,seval,qp3,qln,qv,qlg,*] <;> rfl)))
theorem jmg (a0:Option (List qu)) (a1c0:GUn) {s0:(Option (List qu)) × Int × Bool} {d} (h:itO (qp5 a0 a1c0) s0=some d):X pr (.loop qp3) (qln a0 a1c0 s0)=some (qlg a0 a1c0 d):=zf (jqx a0 a1c0) (fun d hh=>by cases hh) h
noncomputable def f133 (a0:Option (List qu)) (a1c0:GUn):Option ((Option (List qu)) × Bool):=
 qa (itO (qp5 a0 a1c0) (none,0,false)) fun d31=>
 some (d31.1,d31.2.1)
theorem j9u {a0:Option (List qu)} {a1c0:GUn} {r} (h:f133 a0 a1c0=some r):qc pr (X pr) 133 [sl 3 je a0,.fn (.func 135) [] [.vptr (aU a1c0)]]=some (sl 3 je r.1,r.2):=by
 unfold f133 at h
 refine kg c133 ?_
 repeat' first | (replace h:=qb h; obtain ⟨d,g,h⟩:=h; with_reducible first | (replace g:=jmg a0 a1c0 g; dsimp only [qln,qlg,zi] at g h) | skip) | (replace h:=qd h; rcases h with ⟨g,h⟩ | ⟨g,h⟩) | fail
 all_goals (cases h <;> (simp only [go_sem,seval,c133,*]; exact ⟨_,rfl⟩))
noncomputable def f138 (a0:qu):Option (List UInt8):=
 some a0.k
theorem j9y (hp:qf) {a0:qu} {r} (h:f138 a0=some r):qn pr (X pr) 138 [aT a0] hp=some (.str r,false,hp):=by
 unfold f138 at h
 have hr:a0.k=r:=Option.some.inj h
 subst hr
 rw [qk (show pr.fns 138=some c138 from rfl) (by simp)]
 simp only [go_sem,seval,c138] <;> rfl
noncomputable def qqa (a0:Option (List qu)) (s0:(Option (List (List UInt8))) × Int × Bool):Option (((Option (List (List UInt8))) × Int × Bool) ⊕ (((Option (List (List UInt8))) × Bool × Int))):=
 cond (decide (s0.2.1 < ((a0.getD []).length:Int)))
  (qa (qw (a0.getD []) s0.2.1) fun v18=>
  qa (f138 v18) fun v20=>
  cond s0.2.2
   (qa (apO s0.1 [v20]) fun v23=>
   some (.inl (v23,qe .i64 (s0.2.1 + 1),true)))
   (cond s0.1.isNone
    (qa (apO s0.1 [v20]) fun v26=>
    some (.inl (v26,qe .i64 (s0.2.1 + 1),true)))
    (none)))
  (some (.inr (s0.1,s0.2.2,s0.2.1)))
def qmu (a0:Option (List qu)) (s0:(Option (List (List UInt8))) × Int × Bool):ASt:=⟨[(1,.fn (.func 138) [] [],false),(5,sl 1 ye s0.1,s0.2.2),(8,sl 3 je a0,false),(9,Lv a0,false),(10,Iv s0.2.1,false)],[]⟩
def qlm (a0:Option (List qu)) (d:((Option (List (List UInt8))) × Bool × Int)):jd × ASt:=(.exit 0,⟨[(1,.fn (.func 138) [] [],false),(5,sl 1 ye d.1,d.2.1),(8,sl 3 je a0,false),(9,Lv a0,false),(10,Iv d.2.2,false),(11,.bool false,false)],[]⟩)
theorem jm0 (a0:Option (List qu)) (s0:(Option (List (List UInt8))) × Int × Bool) (r) (h:qqa a0 s0=some r):jy pr qo3 (qmu a0) (qlm a0) s0 r:=by
 unfold qqa at h
 repeat' first | (replace h:=qb h; obtain ⟨d,g,h⟩:=h; with_reducible first | replace g:=j9y [] g | replace g:=q4s g | skip) | (replace h:=qd h; rcases h with ⟨g,h⟩ | ⟨g,h⟩) | fail
 all_goals (cases h <;> (first | (refine jb ?_; simp only [go_sem,seval,qo3,qmu,qv,qlm,*] <;> rfl) | (refine js ?_; simp only [go_sem,seval,qo3,qmu,qv,qlm,*] <;> rfl)))
theorem jr0 (a0:Option (List qu)) {s0:(Option (List (List UInt8))) × Int × Bool} {d} (h:itO (qqa a0) s0=some d):X pr (.loop qo3) (qmu a0 s0)=some (qlm a0 d):=zf (jm0 a0) (fun d hh=>by cases hh) h
noncomputable def f137 (a0:Option (List qu)):Option ((Option (List (List UInt8))) × Bool):=
 qa (itO (qqa a0) (none,0,false)) fun d28=>
 some (d28.1,d28.2.1)
theorem zcw {a0:Option (List qu)} {r} (h:f137 a0=some r):qc pr (X pr) 137 [sl 3 je a0,.fn (.func 138) [] []]=some (sl 1 ye r.1,r.2):=by
 unfold f137 at h
 refine kg c137 ?_
 repeat' first | (replace h:=qb h; obtain ⟨d,g,h⟩:=h; with_reducible first | (replace g:=jr0 a0 g; dsimp only [qmu,qlm,zi] at g h) | skip) | (replace h:=qd h; rcases h with ⟨g,h⟩ | ⟨g,h⟩) | fail
 all_goals (cases h <;> (simp only [go_sem,seval,c137,*]; exact ⟨_,rfl⟩))
noncomputable def f74 (a0:GReg) (a1:GUn):Option ((Option (List (List UInt8))) × Bool):=
 qa (f134 a0 a1) fun v1=>
 qa (f133 v1.tests a1) fun v3=>
 qa (f137 v3.1) fun v5=>
 some (v5.1,v5.2)
theorem W74 {a0:GReg} {a1:GUn} {r} (h:f74 a0 a1=some r):qc pr (X pr) 74 [aR a0,aU a1]=some (sl 1 ye r.1,r.2):=by
 unfold f74 at h
 refine kg c74 ?_
 repeat' first | (replace h:=qb h; obtain ⟨d,g,h⟩:=h; with_reducible first | replace g:=q8t g | replace g:=j9u g | replace g:=zcw g | skip) | (replace h:=qd h; rcases h with ⟨g,h⟩ | ⟨g,h⟩) | fail
 all_goals (cases h <;> (simp only [go_sem,seval,c74,*]; exact ⟨_,rfl⟩))
end Go.Z
namespace Go.Z
open Go Go.Abs Go.W
noncomputable def f232 (a0:Option (List qt)):Option ((Option (List qt)) × Bool):=
 cond a0.isNone
  (some (none,false))
  (qa (apO (some []) (a0.getD [])) fun v2=>
  some (v2,true))
theorem zbh {a0:Option (List qt)} {r} (h:f232 a0=some r):qc pr (X pr) 232 [sl 5 jg a0]=some (sl 5 jg r.1,r.2):=by
 unfold f232 at h
 refine kg c232 ?_
 repeat' first | (replace h:=qb h; obtain ⟨d,g,h⟩:=h) | (replace h:=qd h; rcases h with ⟨g,h⟩ | ⟨g,h⟩) | fail
 all_goals (cases h <;> (simp only [go_sem,seval,c232,ke,*]; exact ⟨_,rfl⟩))
noncomputable def f234 (a0:Option (List GProd)):Option ((Option (List GProd)) × Bool):=
 cond a0.isNone
  (some (none,false))
  (qa (apO (some []) (a0.getD [])) fun v2=>
  some (v2,true))
theorem zff {a0:Option (List GProd)} {r} (h:f234 a0=some r):qc pr (X pr) 234 [sl 4 qz a0]=some (sl 4 qz r.1,r.2):=by
 unfold f234 at h
 refine kg c234 ?_
 repeat' first | (replace h:=qb h; obtain ⟨d,g,h⟩:=h) | (replace h:=qd h; rcases h with ⟨g,h⟩ | ⟨g,h⟩) | fail
 all_goals (cases h <;> (simp only [go_sem,seval,c234,ke,*]; exact ⟨_,rfl⟩))
noncomputable def f247 (a0:Option (List GUn)):Option ((Option (List GUn)) × Bool):=
 cond a0.isNone
  (some (none,false))
  (qa (apO (some []) (a0.getD [])) fun v2=>
  some (v2,true))
theorem j73 {a0:Option (List GUn)} {r} (h:f247 a0=some r):qc pr (X pr) 247 [sl 8 vun a0]=some (sl 8 vun r.1,r.2):=by
 unfold f247 at h
 refine kg c247 ?_
 repeat' first | (replace h:=qb h; obtain ⟨d,g,h⟩:=h) | (replace h:=qd h; rcases h with ⟨g,h⟩ | ⟨g,h⟩) | fail
 all_goals (cases h <;> (simp only [go_sem,seval,c247,ke,*]; exact ⟨_,rfl⟩))
noncomputable def f244 (a0:Option (List GDoc)):Option ((Option (List GDoc)) × Bool):=
 cond a0.isNone
  (some (none,false))
  (qa (apO (some []) (a0.getD [])) fun v2=>
  some (v2,true))
theorem j86 {a0:Option (List GDoc)} {r} (h:f244 a0=some r):qc pr (X pr) 244 [sl 2 yb a0]=some (sl 2 yb r.1,r.2):=by
 unfold f244 at h
 refine kg c244 ?_
 repeat' first | (replace h:=qb h; obtain ⟨d,g,h⟩:=h) | (replace h:=qd h; rcases h with ⟨g,h⟩ | ⟨g,h⟩) | fail
 all_goals (cases h <;> (simp only [go_sem,seval,c244,ke,*]; exact ⟨_,rfl⟩))
noncomputable def f245 (a0:Option (List GSI)):Option ((Option (List GSI)) × Bool):=
 cond a0.isNone
  (some (none,false))
  (qa (apO (some []) (a0.getD [])) fun v2=>
  some (v2,true))
theorem jrz {a0:Option (List GSI)} {r} (h:f245 a0=some r):qc pr (X pr) 245 [sl 2 vsi a0]=some (sl 2 vsi r.1,r.2):=by
 unfold f245 at h
 refine kg c245 ?_
 repeat' first | (replace h:=qb h; obtain ⟨d,g,h⟩:=h) | (replace h:=qd h; rcases h with ⟨g,h⟩ | ⟨g,h⟩) | fail
 all_goals (cases h <;> (simp only [go_sem,seval,c245,ke,*]; exact ⟨_,rfl⟩))
noncomputable def f246 (a0:Option (List qu)):Option ((Option (List qu)) × Bool):=
 cond a0.isNone
  (some (none,false))
  (qa (apO (some []) (a0.getD [])) fun v2=>
  some (v2,true))
theorem jr9 {a0:Option (List qu)} {r} (h:f246 a0=some r):qc pr (X pr) 246 [sl 3 je a0]=some (sl 3 je r.1,r.2):=by
 unfold f246 at h
 refine kg c246 ?_
 repeat' first | (replace h:=qb h; obtain ⟨d,g,h⟩:=h) | (replace h:=qd h; rcases h with ⟨g,h⟩ | ⟨g,h⟩) | fail
 all_goals (cases h <;> (simp only [go_sem,seval,c246,ke,*]; exact ⟨_,rfl⟩))
noncomputable def f251 (a0:Option (List qu)):Option ((Option (List qu)) × Bool):=
 cond a0.isNone
  (some (none,false))
  (qa (apO (some []) (a0.getD [])) fun v2=>
  some (v2,true))
theorem zb6 {a0:Option (List qu)} {r} (h:f251 a0=some r):qc pr (X pr) 251 [sl 3 je a0]=some (sl 3 je r.1,r.2):=by
 unfold f251 at h
 refine kg c251 ?_
 repeat' first | (replace h:=qb h; obtain ⟨d,g,h⟩:=h) | (replace h:=qd h; rcases h with ⟨g,h⟩ | ⟨g,h⟩) | fail
 all_goals (cases h <;> (simp only [go_sem,seval,c251,ke,*]; exact ⟨_,rfl⟩))
noncomputable def f269 (a0:Option (List GSI)):Option ((Option (List GSI)) × Bool):=
 cond a0.isNone
  (some (none,false))
  (qa (apO (some []) (a0.getD [])) fun v2=>
  some (v2,true))
theorem zdd {a0:Option (List GSI)} {r} (h:f269 a0=some r):qc pr (X pr) 269 [sl 2 vsi a0]=some (sl 2 vsi r.1,r.2):=by
 unfold f269 at h
 refine kg c269 ?_
 repeat' first | (replace h:=qb h; obtain ⟨d,g,h⟩:=h) | (replace h:=qd h; rcases h with ⟨g,h⟩ | ⟨g,h⟩) | fail
 all_goals (cases h <;> (simp only [go_sem,seval,c269,ke,*]; exact ⟨_,rfl⟩))
noncomputable def f164 (a0:Option (List qt)) (a1:qt):Option (Option (List qt)):=
 qa (f232 a0) fun v1=>
 cond v1.2
  (qa (apO v1.1 [a1]) fun v4=>
  some v4)
  (cond v1.1.isNone
   (qa (apO v1.1 [a1]) fun v7=>
   some v7)
   (none))
theorem j8k {a0:Option (List qt)} {a1:qt} {r} (h:f164 a0 a1=some r):qc pr (X pr) 164 [sl 5 jg a0,aL a1]=some (sl 5 jg r,true):=by
 unfold f164 at h
 refine kg c164 ?_
 repeat' first | (replace h:=qb h; obtain ⟨d,g,h⟩:=h; with_reducible first | replace g:=zbh g | replace g:=qse g | skip) | (replace h:=qd h; rcases h with ⟨g,h⟩ | ⟨g,h⟩) | fail
 all_goals (cases h <;> (simp only [go_sem,seval,c164,*]; exact ⟨_,rfl⟩))
noncomputable def f166 (a0:Option (List GProd)) (a1:GProd):Option (Option (List GProd)):=
 qa (f234 a0) fun v1=>
 cond v1.2
  (qa (apO v1.1 [a1]) fun v4=>
  some v4)
  (cond v1.1.isNone
   (qa (apO v1.1 [a1]) fun v7=>
   some v7)
   (none))
theorem zd1 {a0:Option (List GProd)} {a1:GProd} {r} (h:f166 a0 a1=some r):qc pr (X pr) 166 [sl 4 qz a0,aP a1]=some (sl 4 qz r,true):=by
 unfold f166 at h
 refine kg c166 ?_
 repeat' first | (replace h:=qb h; obtain ⟨d,g,h⟩:=h; with_reducible first | replace g:=zff g | replace g:=qtt g | skip) | (replace h:=qd h; rcases h with ⟨g,h⟩ | ⟨g,h⟩) | fail
 all_goals (cases h <;> (simp only [go_sem,seval,c166,*]; exact ⟨_,rfl⟩))
noncomputable def f183 (a0:Option (List GUn)) (a1:GUn):Option (Option (List GUn)):=
 qa (f247 a0) fun v1=>
 cond v1.2
  (qa (apO v1.1 [a1]) fun v4=>
  some v4)
  (cond v1.1.isNone
   (qa (apO v1.1 [a1]) fun v7=>
   some v7)
   (none))
theorem zax {a0:Option (List GUn)} {a1:GUn} {r} (h:f183 a0 a1=some r):qc pr (X pr) 183 [sl 8 vun a0,aU a1]=some (sl 8 vun r,true):=by
 unfold f183 at h
 refine kg c183 ?_
 repeat' first | (replace h:=qb h; obtain ⟨d,g,h⟩:=h; with_reducible first | replace g:=j73 g | replace g:=q1f g | skip) | (replace h:=qd h; rcases h with ⟨g,h⟩ | ⟨g,h⟩) | fail
 all_goals (cases h <;> (simp only [go_sem,seval,c183,*]; exact ⟨_,rfl⟩))
noncomputable def f180 (a0:Option (List GDoc)) (a1:GDoc):Option (Option (List GDoc)):=
 qa (f244 a0) fun v1=>
 cond v1.2
  (qa (apO v1.1 [a1]) fun v4=>
  some v4)
  (cond v1.1.isNone
   (qa (apO v1.1 [a1]) fun v7=>
   some v7)
   (none))
theorem zc2 {a0:Option (List GDoc)} {a1:GDoc} {r} (h:f180 a0 a1=some r):qc pr (X pr) 180 [sl 2 yb a0,aD a1]=some (sl 2 yb r,true):=by
 unfold f180 at h
 refine kg c180 ?_
 repeat' first | (replace h:=qb h; obtain ⟨d,g,h⟩:=h; with_reducible first | replace g:=j86 g | replace g:=qw9 g | skip) | (replace h:=qd h; rcases h with ⟨g,h⟩ | ⟨g,h⟩) | fail
 all_goals (cases h <;> (simp only [go_sem,seval,c180,*]; exact ⟨_,rfl⟩))
noncomputable def f239 (a0:Option (List GSI)) (a1:GSI):Option (Option (List GSI)):=
 qa (f245 a0) fun v1=>
 cond v1.2
  (qa (apO v1.1 [a1]) fun v4=>
  some v4)
  (cond v1.1.isNone
   (qa (apO v1.1 [a1]) fun v7=>
   some v7)
   (none))
theorem j9x {a0:Option (List GSI)} {a1:GSI} {r} (h:f239 a0 a1=some r):qc pr (X pr) 239 [sl 2 vsi a0,aN a1]=some (sl 2 vsi r,true):=by
 unfold f239 at h
 refine kg c239 ?_
 repeat' first | (replace h:=qb h; obtain ⟨d,g,h⟩:=h; with_reducible first | replace g:=jrz g | replace g:=qgl g | skip) | (replace h:=qd h; rcases h with ⟨g,h⟩ | ⟨g,h⟩) | fail
 all_goals (cases h <;> (simp only [go_sem,seval,c239,*]; exact ⟨_,rfl⟩))
noncomputable def f243 (a0:Option (List qu)) (a1:qu):Option (Option (List qu)):=
 qa (f246 a0) fun v1=>
 cond v1.2
  (qa (apO v1.1 [a1]) fun v4=>
  some v4)
  (cond v1.1.isNone
   (qa (apO v1.1 [a1]) fun v7=>
   some v7)
   (none))
theorem zf2 {a0:Option (List qu)} {a1:qu} {r} (h:f243 a0 a1=some r):qc pr (X pr) 243 [sl 3 je a0,aT a1]=some (sl 3 je r,true):=by
 unfold f243 at h
 refine kg c243 ?_
 repeat' first | (replace h:=qb h; obtain ⟨d,g,h⟩:=h; with_reducible first | replace g:=jr9 g | replace g:=qfq g | skip) | (replace h:=qd h; rcases h with ⟨g,h⟩ | ⟨g,h⟩) | fail
 all_goals (cases h <;> (simp only [go_sem,seval,c243,*]; exact ⟨_,rfl⟩))
noncomputable def f250 (a0:Option (List GSI)) (a1:GSI):Option (Option (List GSI)):=
 qa (f269 a0) fun v1=>
 cond v1.2
  (qa (apO v1.1 [a1]) fun v4=>
  some v4)
  (cond v1.1.isNone
   (qa (apO v1.1 [a1]) fun v7=>
   some v7)
   (none))
theorem j9c {a0:Option (List GSI)} {a1:GSI} {r} (h:f250 a0 a1=some r):qc pr (X pr) 250 [sl 2 vsi a0,aN a1]=some (sl 2 vsi r,true):=by
 unfold f250 at h
 refine kg c250 ?_
 repeat' first | (replace h:=qb h; obtain ⟨d,g,h⟩:=h; with_reducible first | replace g:=zdd g | replace g:=qgl g | skip) | (replace h:=qd h; rcases h with ⟨g,h⟩ | ⟨g,h⟩) | fail
 all_goals (cases h <;> (simp only [go_sem,seval,c250,*]; exact ⟨_,rfl⟩))
noncomputable def f194 (a0:Option (List qu)) (a1:qu):Option (Option (List qu)):=
 qa (f251 a0) fun v1=>
 cond v1.2
  (qa (apO v1.1 [a1]) fun v4=>
  some v4)
  (cond v1.1.isNone
   (qa (apO v1.1 [a1]) fun v7=>
   some v7)
   (none))
theorem j9a {a0:Option (List qu)} {a1:qu} {r} (h:f194 a0 a1=some r):qc pr (X pr) 194 [sl 3 je a0,aT a1]=some (sl 3 je r,true):=by
 unfold f194 at h
 refine kg c194 ?_
 repeat' first | (replace h:=qb h; obtain ⟨d,g,h⟩:=h; with_reducible first | replace g:=zb6 g | replace g:=qfq g | skip) | (replace h:=qd h; rcases h with ⟨g,h⟩ | ⟨g,h⟩) | fail
 all_goals (cases h <;> (simp only [go_sem,seval,c194,*]; exact ⟨_,rfl⟩))
noncomputable def f181 (a0:GDoc):Option GDoc:=
 qa (f245 a0.needs) fun v1=>
 qa (f246 a0.tests) fun v3=>
 some (⟨v1.1,v3.1⟩)
theorem zc7 {a0:GDoc} {r} (h:f181 a0=some r):qc pr (X pr) 181 [aD a0]=some (aD r,false):=by
 unfold f181 at h
 refine zg c181 ?_
 repeat' first | (replace h:=qb h; obtain ⟨d,g,h⟩:=h; with_reducible first | replace g:=jrz g | replace g:=jr9 g | skip) | (replace h:=qd h; rcases h with ⟨g,h⟩ | ⟨g,h⟩) | fail
 all_goals (cases h <;> (simp only [go_sem,seval,c181,*]; exact ⟨_,rfl⟩))
end Go.Z
