/- Chapter 4. -/
import Derived.Test.YtnjngdcbkkonnaaGreatDoorCV
set_option linter.unusedVariables false
set_option linter.unusedSimpArgs false
set_option maxRecDepth 100000
set_option maxHeartbeats 4000000
namespace Go.Z
open Go Go.Abs
noncomputable def f177 (a0:Int) (c0_0:Option (List qi)):Option Bool:=
 cond (decide (a0 < 0))
  (some true)
  (some (decide (((c0_0.getD []).length:Int)≤a0)))
theorem jp7 {a0:Int} {c0_0:Option (List qi)} {r} (h:f177 a0 c0_0=some r):jl pr (X pr) 177 [.int .i64 a0,.ptr 0 0] [.cells [(sl 8 qm c0_0,false)]]=some (.bool r,false,[.cells [(sl 8 qm c0_0,false)]]):=by
 unfold f177 at h
 rcases qb h with ⟨h1,h⟩ | ⟨h1,h⟩
 ·have hr:true=r:=Option.some.inj h
  subst hr
  rw [qh (show pr.fns 177=some c177 from rfl) (by simp)]
  simp only [go_sem,seval,c177,h1] <;> rfl
 ·have hr:decide (((c0_0.getD []).length:Int)≤a0)=r:=Option.some.inj h
  subst hr
  rw [qh (show pr.fns 177=some c177 from rfl) (by simp)]
  simp only [go_sem,seval,c177,h1] <;> rfl
noncomputable def qib (a0:Option (List Int)) (c0_0:Option (List qi)) (s0:Int):Option (Int ⊕ (Int ⊕ Int)):=
 cond (decide (s0 < ((a0.getD []).length:Int)))
  (qe (zw (a0.getD []) s0) fun v14=>
  qe (f177 v14 c0_0) fun v16=>
  cond v16
   (some (.inr (.inl s0)))
   (some (.inl (qf .i64 (s0 + 1)))))
  (some (.inr (.inr s0)))
def qlf (a0:Option (List Int)) (c0_0:Option (List qi)) (s0:Int):ASt:=⟨[(0,sl 1 qo a0,false),(1,.fn (.func 177) [] [.ptr 0 0],false),(7,.int .i64 ((a0.getD []).length:Int),false),(8,.int .i64 s0,false)],[.cells [(sl 8 qm c0_0,false)]]⟩
def qoj (a0:Option (List Int)) (c0_0:Option (List qi)):Int ⊕ Int→ji × ASt
 | .inl d=>(.ret,⟨[(4,.int .i64 d,false)],[.cells [(sl 8 qm c0_0,false)]]⟩)
 | .inr d=>(.exit 0,⟨[(0,sl 1 qo a0,false),(1,.fn (.func 177) [] [.ptr 0 0],false),(7,.int .i64 ((a0.getD []).length:Int),false),(8,.int .i64 d,false),(9,.bool false,false)],[.cells [(sl 8 qm c0_0,false)]]⟩)
theorem jfe (a0:Option (List Int)) (c0_0:Option (List qi)) (s0:Int) (r) (h:qib a0 c0_0 s0=some r):zj pr qgp (qlf a0 c0_0) (qoj a0 c0_0) s0 r:=by
 unfold qib at h
 rcases qb h with ⟨h13,h⟩ | ⟨h13,h⟩
 ·obtain ⟨v14,h15,h⟩:=qa h
  obtain ⟨v16,h17,h⟩:=qa h
  have wh17:jl pr (X pr) 177 [.int .i64 v14,.ptr 0 0] [.cells [(sl 8 qm c0_0,false)]]=some (.bool v16,false,[.cells [(sl 8 qm c0_0,false)]]):=jp7 h17
  rcases qb h with ⟨h18,h⟩ | ⟨h18,h⟩
  ·cases h
   exact qj (by simp only [go_sem,seval,qgp,qlf,h13,q9 h15,wh17,h18,qoj] <;> rfl)
  ·cases h
   exact qq (st':=⟨[(0,sl 1 qo a0,false),(1,.fn (.func 177) [] [.ptr 0 0],false),(7,.int .i64 ((a0.getD []).length:Int),false),(8,.int .i64 (qf .i64 (s0 + 1)),false)],[.cells [(sl 8 qm c0_0,false)]]⟩) (by simp only [go_sem,seval,qgp,qlf,h13,q9 h15,wh17,h18] <;> rfl) (jb (Nat.le_refl _))
 ·cases h
  exact qj (by simp only [go_sem,seval,qgp,qlf,h13,qoj] <;> rfl)
theorem q5h (a0:Option (List Int)) (c0_0:Option (List qi)) {s0:Int} {d} (h:itO (qib a0 c0_0) s0=some d):X pr (.loop qgp) (qlf a0 c0_0 s0)=some (qoj a0 c0_0 d):=z7 (jfe a0 c0_0) (fun d=>by rcases d with d|d <;> (intro hh; cases hh)) h
noncomputable def f208 (a0:Option (List Int)) (c0_0:Option (List qi)):Option Int:=
 qe (itO (qib a0 c0_0) 0) fun d19=>match d19 with
  | .inl d21=>
   some d21
  | .inr d22=>
   some (-1)
theorem jr2 {a0:Option (List Int)} {c0_0:Option (List qi)} {r} (h:f208 a0 c0_0=some r):jl pr (X pr) 208 [sl 1 qo a0,.fn (.func 177) [] [.ptr 0 0]] [.cells [(sl 8 qm c0_0,false)]]=some (.int .i64 r,false,[.cells [(sl 8 qm c0_0,false)]]):=by
 unfold f208 at h
 obtain ⟨d19,h20,h⟩:=qa h
 rcases d19 with d21 | d22
 ·have wh20:X pr (.loop qgp) ⟨[(0,sl 1 qo a0,false),(1,.fn (.func 177) [] [.ptr 0 0],false),(7,.int .i64 ((a0.getD []).length:Int),false),(8,.int .i64 0,false)],[.cells [(sl 8 qm c0_0,false)]]⟩=some (.ret,⟨[(4,.int .i64 d21,false)],[.cells [(sl 8 qm c0_0,false)]]⟩):=q5h a0 c0_0 h20
  have hr:d21=r:=Option.some.inj h
  subst hr
  rw [qh (show pr.fns 208=some c208 from rfl) (by simp)]
  simp only [go_sem,seval,c208,wh20] <;> rfl
 ·have wh20:X pr (.loop qgp) ⟨[(0,sl 1 qo a0,false),(1,.fn (.func 177) [] [.ptr 0 0],false),(7,.int .i64 ((a0.getD []).length:Int),false),(8,.int .i64 0,false)],[.cells [(sl 8 qm c0_0,false)]]⟩=some (.exit 0,⟨[(0,sl 1 qo a0,false),(1,.fn (.func 177) [] [.ptr 0 0],false),(7,.int .i64 ((a0.getD []).length:Int),false),(8,.int .i64 d22,false),(9,.bool false,false)],[.cells [(sl 8 qm c0_0,false)]]⟩):=q5h a0 c0_0 h20
  have hr:(-1)=r:=Option.some.inj h
  subst hr
  rw [qh (show pr.fns 208=some c208 from rfl) (by simp)]
  simp only [go_sem,seval,c208,wh20] <;> rfl
noncomputable def f176 (a0:Option (List Int)) (c0_0:Option (List qi)):Option Bool:=
 qe (f208 a0 c0_0) fun v1=>
 some (decide (0≤v1))
theorem js3 {a0:Option (List Int)} {c0_0:Option (List qi)} {r} (h:f176 a0 c0_0=some r):jl pr (X pr) 176 [sl 1 qo a0,.fn (.func 177) [] [.ptr 0 0]] [.cells [(sl 8 qm c0_0,false)]]=some (.bool r,false,[.cells [(sl 8 qm c0_0,false)]]):=by
 unfold f176 at h
 obtain ⟨v1,h2,h⟩:=qa h
 have wh2:jl pr (X pr) 208 [sl 1 qo a0,.fn (.func 177) [] [.ptr 0 0]] [.cells [(sl 8 qm c0_0,false)]]=some (.int .i64 v1,false,[.cells [(sl 8 qm c0_0,false)]]):=jr2 h2
 have hr:decide (0≤v1)=r:=Option.some.inj h
 subst hr
 rw [qh (show pr.fns 176=some c176 from rfl) (by simp)]
 simp only [go_sem,seval,c176,wh2] <;> rfl
noncomputable def f133 (a0:Option (List qi)) (a1:Option (List Int)):Option Int:=
 qe (f176 a1 a0) fun v1=>
 qe (f23 a0) fun v3=>
 qe (f106 (decide (3 < ((a1.getD []).length:Int))) 5) fun v5=>
 qe (f106 v1 10) fun v7=>
 qe (f105 (some [v3,v5,v7])) fun v9=>
 some v9
theorem q6s {a0:Option (List qi)} {a1:Option (List Int)} {r} (h:f133 a0 a1=some r):qc pr (X pr) 133 [sl 8 qm a0,sl 1 qo a1]=some (.int .i64 r,false):=by
 unfold f133 at h
 obtain ⟨v1,h2,h⟩:=qa h
 have wh2:jl pr (X pr) 176 [sl 1 qo a1,.fn (.func 177) [] [.ptr 0 0]] [.cells [(sl 8 qm a0,false)]]=some (.bool v1,false,[.cells [(sl 8 qm a0,false)]]):=js3 h2
 obtain ⟨v3,h4,h⟩:=qa h
 obtain ⟨v5,h6,h⟩:=qa h
 have wh6:qc pr (X pr) 106 [.bool (decide (3 < ((a1.getD []).length:Int))),.int .i64 5]=some (.int .i64 v5,false):=qhu h6
 obtain ⟨v7,h8,h⟩:=qa h
 obtain ⟨v9,h10,h⟩:=qa h
 have wh10:qc pr (X pr) 105 [.list false 1 [.int .i64 v3,.int .i64 v5,.int .i64 v7]]=some (.int .i64 v9,false):=qln h10
 have hr:v9=r:=Option.some.inj h
 subst hr
 refine qy rfl ?_ (fun _=>by first | rfl | simp only [go_sem,seval]) (by first | rfl | simp only [go_sem,seval])
 rw [qh (show pr.fns 133=some c133 from rfl) (by simp)]
 simp only [go_sem,seval,c133,wh2,W23 h4,wh6,qhu h8,wh10]
 exact ⟨_,rfl⟩
noncomputable def f30 (a0:Option (List Int)):Option (Option (List Int)):=
 qe (apO (some []) (a0.getD [])) fun v1=>
 some v1
theorem W30 {a0:Option (List Int)} {r} (h:f30 a0=some r):qc pr (X pr) 30 [sl 1 qo a0]=some (sl 1 qo r,true):=by
 unfold f30 at h
 obtain ⟨v1,h2,h⟩:=qa h
 have hr:v1=r:=Option.some.inj h
 subst hr
 have this:∃ hh,jl pr (X pr) 30 [sl 1 qo a0] []=some (sl 1 qo v1,true,hh):=by
  rw [qh (show pr.fns 30=some c30 from rfl) (by simp)]
  simp only [go_sem,seval,c30,qi6 h2]
  exact ⟨_,rfl⟩
 obtain ⟨hh,this⟩:=this
 exact z6 rfl this (by first | rfl | simp only [go_sem,seval]) (by first | rfl | simp only [go_sem,seval]) (by first | rfl | simp only [go_sem,seval])
noncomputable def ql9 (a0:Option (List qi)) (a1:Option (List Int)) (s0:Int):Option (Int ⊕ (Unit ⊕ Int)):=
 cond (decide (s0 < ((a1.getD []).length:Int)))
  (qe (zw (a1.getD []) s0) fun v13=>
  cond (decide (v13 < 0))
   (some (.inr (.inl ())))
   (cond (decide (((a0.getD []).length:Int)≤v13))
    (some (.inr (.inl ())))
    (some (.inl (qf .i64 (s0 + 1))))))
  (some (.inr (.inr s0)))
def qle (a0:Option (List qi)) (a1:Option (List Int)) (s0:Int):ASt:=⟨[(0,sl 8 qm a0,false),(1,sl 1 qo a1,false),(5,.int .i64 s0,false)],[]⟩
def qna (a0:Option (List qi)) (a1:Option (List Int)):Unit ⊕ Int→ji × ASt
 | .inl d=>(.ret,⟨[(4,.int .i64 10,false)],[]⟩)
 | .inr d=>(.exit 0,⟨[(0,sl 8 qm a0,false),(1,sl 1 qo a1,false),(5,.int .i64 d,false),(12,.bool false,false)],[]⟩)
theorem jix (a0:Option (List qi)) (a1:Option (List Int)) (s0:Int) (r) (h:ql9 a0 a1 s0=some r):zj pr qg9 (qle a0 a1) (qna a0 a1) s0 r:=by
 unfold ql9 at h
 rcases qb h with ⟨h12,h⟩ | ⟨h12,h⟩
 ·obtain ⟨v13,h14,h⟩:=qa h
  rcases qb h with ⟨h15,h⟩ | ⟨h15,h⟩
  ·cases h
   exact qj (by simp only [go_sem,seval,qg9,qle,h12,q9 h14,h15,qna] <;> rfl)
  ·rcases qb h with ⟨h16,h⟩ | ⟨h16,h⟩
   ·cases h
    exact qj (by simp only [go_sem,seval,qg9,qle,h12,q9 h14,h15,h16,qna] <;> rfl)
   ·cases h
    exact qq (st':=⟨[(0,sl 8 qm a0,false),(1,sl 1 qo a1,false),(5,.int .i64 (qf .i64 (s0 + 1)),false)],[]⟩) (by simp only [go_sem,seval,qg9,qle,h12,q9 h14,h15,h16] <;> rfl) (jb (Nat.le_refl _))
 ·cases h
  exact qj (by simp only [go_sem,seval,qg9,qle,h12,qna] <;> rfl)
theorem q83 (a0:Option (List qi)) (a1:Option (List Int)) {s0:Int} {d} (h:itO (ql9 a0 a1) s0=some d):X pr (.loop qg9) (qle a0 a1 s0)=some (qna a0 a1 d):=z7 (jix a0 a1) (fun d=>by rcases d with d|d <;> (intro hh; cases hh)) h
noncomputable def f33 (a0:Option (List qi)) (a1:Option (List Int)):Option Int:=
 cond (decide (3 < ((a1.getD []).length:Int)))
  (some 5)
  (qe (itO (ql9 a0 a1) 0) fun d17=>match d17 with
   | .inl d19=>
    some 10
   | .inr d20=>
    some 0)
theorem W33 {a0:Option (List qi)} {a1:Option (List Int)} {r} (h:f33 a0 a1=some r):qc pr (X pr) 33 [sl 8 qm a0,sl 1 qo a1]=some (.int .i64 r,false):=by
 unfold f33 at h
 rcases qb h with ⟨h1,h⟩ | ⟨h1,h⟩
 ·have hr:5=r:=Option.some.inj h
  subst hr
  refine qy rfl ?_ (fun _=>by first | rfl | simp only [go_sem,seval]) (by first | rfl | simp only [go_sem,seval])
  rw [qh (show pr.fns 33=some c33 from rfl) (by simp)]
  simp only [go_sem,seval,c33,h1]
  exact ⟨_,rfl⟩
 ·obtain ⟨d17,h18,h⟩:=qa h
  rcases d17 with d19 | d20
  ·have wh18:X pr (.loop qg9) ⟨[(0,sl 8 qm a0,false),(1,sl 1 qo a1,false),(5,.int .i64 0,false)],[]⟩=some (.ret,⟨[(4,.int .i64 10,false)],[]⟩):=q83 a0 a1 h18
   have hr:10=r:=Option.some.inj h
   subst hr
   refine qy rfl ?_ (fun _=>by first | rfl | simp only [go_sem,seval]) (by first | rfl | simp only [go_sem,seval])
   rw [qh (show pr.fns 33=some c33 from rfl) (by simp)]
   simp only [go_sem,seval,c33,h1,wh18]
   exact ⟨_,rfl⟩
  ·have wh18:X pr (.loop qg9) ⟨[(0,sl 8 qm a0,false),(1,sl 1 qo a1,false),(5,.int .i64 0,false)],[]⟩=some (.exit 0,⟨[(0,sl 8 qm a0,false),(1,sl 1 qo a1,false),(5,.int .i64 d20,false),(12,.bool false,false)],[]⟩):=q83 a0 a1 h18
   have hr:0=r:=Option.some.inj h
   subst hr
   refine qy rfl ?_ (fun _=>by first | rfl | simp only [go_sem,seval]) (by first | rfl | simp only [go_sem,seval])
   rw [qh (show pr.fns 33=some c33 from rfl) (by simp)]
   simp only [go_sem,seval,c33,h1,wh18]
   exact ⟨_,rfl⟩
noncomputable def f36 (a0:Option (List qi)) (a1:Option (List jm)) (a2:Int):Option Bool:=
 qe (f17 a0) fun v1=>
 cond v1
  (cond (decide (((a1.getD []).length:Int)≤4))
   (cond (decide (a2≤2))
    (some true)
    (cond (decide (3 < a2))
     (some true)
     (some (decide (((a0.getD []).length:Int)≤2)))))
   (cond (decide (((a1.getD []).length:Int)=9))
    (cond (decide (a2≤2))
     (some true)
     (cond (decide (3 < a2))
      (some true)
      (some (decide (((a0.getD []).length:Int)≤2)))))
    (some false)))
  (some false)
theorem W36 {a0:Option (List qi)} {a1:Option (List jm)} {a2:Int} {r} (h:f36 a0 a1 a2=some r):qc pr (X pr) 36 [sl 8 qm a0,sl 5 jg a1,.int .i64 a2]=some (.bool r,false):=by
 unfold f36 at h
 obtain ⟨v1,h2,h⟩:=qa h
 rcases qb h with ⟨h3,h⟩ | ⟨h3,h⟩
 ·rcases qb h with ⟨h4,h⟩ | ⟨h4,h⟩
  ·rcases qb h with ⟨h5,h⟩ | ⟨h5,h⟩
   ·have hr:true=r:=Option.some.inj h
    subst hr
    refine qy rfl ?_ (fun _=>by first | rfl | simp only [go_sem,seval]) (by first | rfl | simp only [go_sem,seval])
    rw [qh (show pr.fns 36=some c36 from rfl) (by simp)]
    simp only [go_sem,seval,c36,W17 h2,h3,h4,h5]
    exact ⟨_,rfl⟩
   ·rcases qb h with ⟨h6,h⟩ | ⟨h6,h⟩
    ·have hr:true=r:=Option.some.inj h
     subst hr
     refine qy rfl ?_ (fun _=>by first | rfl | simp only [go_sem,seval]) (by first | rfl | simp only [go_sem,seval])
     rw [qh (show pr.fns 36=some c36 from rfl) (by simp)]
     simp only [go_sem,seval,c36,W17 h2,h3,h4,h5,h6]
     exact ⟨_,rfl⟩
    ·have hr:decide (((a0.getD []).length:Int)≤2)=r:=Option.some.inj h
     subst hr
     refine qy rfl ?_ (fun _=>by first | rfl | simp only [go_sem,seval]) (by first | rfl | simp only [go_sem,seval])
     rw [qh (show pr.fns 36=some c36 from rfl) (by simp)]
     simp only [go_sem,seval,c36,W17 h2,h3,h4,h5,h6]
     exact ⟨_,rfl⟩
  ·rcases qb h with ⟨h7,h⟩ | ⟨h7,h⟩
   ·rcases qb h with ⟨h8,h⟩ | ⟨h8,h⟩
    ·have hr:true=r:=Option.some.inj h
     subst hr
     refine qy rfl ?_ (fun _=>by first | rfl | simp only [go_sem,seval]) (by first | rfl | simp only [go_sem,seval])
     rw [qh (show pr.fns 36=some c36 from rfl) (by simp)]
     simp only [go_sem,seval,c36,W17 h2,h3,h4,h7,h8]
     exact ⟨_,rfl⟩
    ·rcases qb h with ⟨h9,h⟩ | ⟨h9,h⟩
     ·have hr:true=r:=Option.some.inj h
      subst hr
      refine qy rfl ?_ (fun _=>by first | rfl | simp only [go_sem,seval]) (by first | rfl | simp only [go_sem,seval])
      rw [qh (show pr.fns 36=some c36 from rfl) (by simp)]
      simp only [go_sem,seval,c36,W17 h2,h3,h4,h7,h8,h9]
      exact ⟨_,rfl⟩
     ·have hr:decide (((a0.getD []).length:Int)≤2)=r:=Option.some.inj h
      subst hr
      refine qy rfl ?_ (fun _=>by first | rfl | simp only [go_sem,seval]) (by first | rfl | simp only [go_sem,seval])
      rw [qh (show pr.fns 36=some c36 from rfl) (by simp)]
      simp only [go_sem,seval,c36,W17 h2,h3,h4,h7,h8,h9]
      exact ⟨_,rfl⟩
   ·have hr:false=r:=Option.some.inj h
    subst hr
    refine qy rfl ?_ (fun _=>by first | rfl | simp only [go_sem,seval]) (by first | rfl | simp only [go_sem,seval])
    rw [qh (show pr.fns 36=some c36 from rfl) (by simp)]
    simp only [go_sem,seval,c36,W17 h2,h3,h4,h7]
    exact ⟨_,rfl⟩
 ·have hr:false=r:=Option.some.inj h
  subst hr
  refine qy rfl ?_ (fun _=>by first | rfl | simp only [go_sem,seval]) (by first | rfl | simp only [go_sem,seval])
  rw [qh (show pr.fns 36=some c36 from rfl) (by simp)]
  simp only [go_sem,seval,c36,W17 h2,h3]
  exact ⟨_,rfl⟩
def qk9:ACode:=pcL c111.body
def qk1:ACode:=pcL (pcR c111.body)
def qka:ACode:=pcL (pcR (pcR c111.body))
def qkz:ACode:=pcL (pcL (pcR (pcR (pcR c111.body))))
def qk3:ACode:=pcR (pcR (pcR (pcR c111.body)))
noncomputable def f111 (ps:Option (List qi)) (ch:Option (List Int)) (w:Int) (c:Bool):Option (jy × Int):=
 qe (f133 ps ch) fun e1=>qe (f122 w) fun e2=>qe (f105 (some [e1,e2])) fun e=>
 cond (decide (e=0)) (qe (vis (qmd w) ch ps c (ch.getD []).length none ⟨0,0,0,0⟩) fun r=>match r with
  | .inl s=>some (s,0)
  | .inr d=>some (⟨0,0,0,0⟩,d.1)) (some (⟨0,0,0,0⟩,e))
theorem jdr {ps:Option (List qi)} {ch:Option (List Int)} {c:Bool}:qc pr (X pr) 159 [sl 8 qm ps,sl 1 qo ch,.bool c]=some (.fn (.func 196) [] [.vptr (sl 1 qo ch),.vptr (sl 8 qm ps),.vptr (.bool c)],false):=by
 have this:∃ hh,jl pr (X pr) 159 [sl 8 qm ps,sl 1 qo ch,.bool c] []=some (.fn (.func 196) [] [.vptr (sl 1 qo ch),.vptr (sl 8 qm ps),.vptr (.bool c)],false,hh):=by
  rw [qh (show pr.fns 159=some c159 from rfl) (by simp)]
  simp only [go_sem,seval,c159]
  exact ⟨_,rfl⟩
 obtain ⟨hh,this⟩:=this
 have h1:Abs.below 0 (sl 1 qo ch)=true:=by simp only [go_sem,seval]
 have h2:Abs.below 0 (sl 8 qm ps)=true:=by simp only [go_sem,seval]
 have hp:Abs.below 0 (.fn (.func 196) [] [.vptr (sl 1 qo ch),.vptr (sl 8 qm ps),.vptr (.bool c)])=true:=by
  show (true && (Abs.below 0 (sl 1 qo ch) && (Abs.below 0 (sl 8 qm ps) && (true && true))))=true
  rw [h1,h2]; rfl
 exact ym rfl this (by first | rfl | simp only [go_sem,seval]) (by first | exact hp | simp only [go_sem,seval])
theorem jf1 {ps:Option (List qi)} {ch:Option (List Int)} {w:Int} {c:Bool} {r} (h:f111 ps ch w c=some r):qc pr (X pr) 111 [sl 8 qm ps,sl 1 qo ch,.int .i64 w,.bool c]=some (.tup [.agg [.int .i64 r.1.a,.int .i64 r.1.b,.int .i64 r.1.c,.int .i64 r.1.d],.int .i64 r.2],false):=by
 unfold f111 at h
 obtain ⟨e1,h1,h⟩:=qa h
 obtain ⟨e2,h2,h⟩:=qa h
 obtain ⟨e,h3,h⟩:=qa h
 have g1:=q6s h1
 have g2:=jec h2
 have g3:qc pr (X pr) 105 [.list false 1 [.int .i64 e1,.int .i64 e2]]=some (.int .i64 e,false):=qln h3
 have g159:=jdr (ps:=ps) (ch:=ch) (c:=c)
 rcases qb h with ⟨h4,k⟩ | ⟨h4,k⟩
 ·obtain ⟨q,h5,k⟩:=qa k
  have hx:=q7t ch ps c w h5
  have h4':e=0:=by simpa using h4
  cases q with
  | inl s=>
   cases k
   have this:∃ hh,jl pr (X pr) 111 [sl 8 qm ps,sl 1 qo ch,.int .i64 w,.bool c] []=some (.tup [.agg [.int .i64 s.a,.int .i64 s.b,.int .i64 s.c,.int .i64 s.d],.int .i64 0],false,hh):=by
    rw [qh (show pr.fns 111=some ⟨60,.seq qk9 (.seq qk1 (.seq qka (.seq (.seq qkz (.block 0 qet)) qk3))),[.cell 8 true 4,.cell 9 false 1]⟩ from rfl) (by simp)]
    simp only [qca,qcs] at hx
    simp only [go_sem,seval,qk9,qk1,qka,qkz,qk3,pcL,pcR,c111,g1,g2,g3,h4,h4',g159,hx]
    exact ⟨_,rfl⟩
   obtain ⟨hh,this⟩:=this
   exact ym rfl this (by first | rfl | simp only [go_sem,seval]) (by first | rfl | simp only [go_sem,seval])
  | inr d=>
   cases k
   have this:∃ hh,jl pr (X pr) 111 [sl 8 qm ps,sl 1 qo ch,.int .i64 w,.bool c] []=some (.tup [.agg [.int .i64 0,.int .i64 0,.int .i64 0,.int .i64 0],.int .i64 d.1],false,hh):=by
    rw [qh (show pr.fns 111=some ⟨60,.seq qk9 (.seq qk1 (.seq qka (.seq (.seq qkz (.block 0 qet)) qk3))),[.cell 8 true 4,.cell 9 false 1]⟩ from rfl) (by simp)]
    simp only [qca,qcs] at hx
    simp only [go_sem,seval,qk9,qk1,qka,qkz,qk3,pcL,pcR,c111,g1,g2,g3,h4,h4',g159,hx]
    exact ⟨_,rfl⟩
   obtain ⟨hh,this⟩:=this
   exact ym rfl this (by first | rfl | simp only [go_sem,seval]) (by first | rfl | simp only [go_sem,seval])
 ·cases k
  have h4':¬ e=0:=by simpa using h4
  have this:∃ hh,jl pr (X pr) 111 [sl 8 qm ps,sl 1 qo ch,.int .i64 w,.bool c] []=some (.tup [.agg [.int .i64 0,.int .i64 0,.int .i64 0,.int .i64 0],.int .i64 e],false,hh):=by
   rw [qh (show pr.fns 111=some ⟨60,.seq qk9 (.seq qk1 (.seq qka (.seq (.seq qkz (.block 0 qet)) qk3))),[.cell 8 true 4,.cell 9 false 1]⟩ from rfl) (by simp)]
   simp only [go_sem,seval,qk9,qk1,qka,qkz,qk3,pcL,pcR,c111,g1,g2,g3,h4,h4',g159]
   exact ⟨_,rfl⟩
  obtain ⟨hh,this⟩:=this
  exact ym rfl this (by first | rfl | simp only [go_sem,seval]) (by first | rfl | simp only [go_sem,seval])
noncomputable def f29 (a0:Option (List qi)) (a1:Option (List Int)) (a2:Int):Option (jy × Int):=
 qe (f111 a0 a1 a2 false) fun v1=>
 some (v1.1,v1.2)
theorem W29 {a0:Option (List qi)} {a1:Option (List Int)} {a2:Int} {r} (h:f29 a0 a1 a2=some r):qc pr (X pr) 29 [sl 8 qm a0,sl 1 qo a1,.int .i64 a2]=some (.tup [.agg [.int .i64 r.1.a,.int .i64 r.1.b,.int .i64 r.1.c,.int .i64 r.1.d],.int .i64 r.2],false):=by
 unfold f29 at h
 obtain ⟨v1,h2,h⟩:=qa h
 have hr:(v1.1,v1.2)=r:=Option.some.inj h
 subst hr
 refine qy rfl ?_ (fun _=>by first | rfl | simp only [go_sem,seval]) (by first | rfl | simp only [go_sem,seval])
 rw [qh (show pr.fns 29=some c29 from rfl) (by simp)]
 simp only [go_sem,seval,c29,jf1 h2]
 exact ⟨_,rfl⟩
noncomputable def f31 (a0:Option (List qi)) (a1:Option (List Int)) (a2:Int):Option (GRat × Int):=
 qe (f111 a0 a1 a2 true) fun v1=>
 some (⟨v1.1.a,v1.1.b⟩,v1.2)
theorem W31 {a0:Option (List qi)} {a1:Option (List Int)} {a2:Int} {r} (h:f31 a0 a1 a2=some r):qc pr (X pr) 31 [sl 8 qm a0,sl 1 qo a1,.int .i64 a2]=some (.tup [.agg [.int .i64 r.1.num,.int .i64 r.1.den],.int .i64 r.2],false):=by
 unfold f31 at h
 obtain ⟨v1,h2,h⟩:=qa h
 have hr:(⟨v1.1.a,v1.1.b⟩,v1.2)=r:=Option.some.inj h
 subst hr
 refine qy rfl ?_ (fun _=>by first | rfl | simp only [go_sem,seval]) (by first | rfl | simp only [go_sem,seval])
 rw [qh (show pr.fns 31=some c31 from rfl) (by simp)]
 simp only [go_sem,seval,c31,jf1 h2]
 exact ⟨_,rfl⟩
noncomputable def f28 (a0:yl):Option Bool:=
 qe (f36 a0.parts a0.bands 0) fun v1=>
 cond v1
  (some (decide (((a0.choice.getD []).length:Int)≤5)))
  (some false)
theorem W28 {a0:yl} {r} (h:f28 a0=some r):qc pr (X pr) 28 [.agg [sl 8 qm a0.parts,sl 1 qo a0.choice,sl 5 jg a0.bands]]=some (.bool r,false):=by
 unfold f28 at h
 obtain ⟨v1,h2,h⟩:=qa h
 have wh2:qc pr (X pr) 36 [sl 8 qm a0.parts,sl 5 jg a0.bands,.int .i64 0]=some (.bool v1,false):=W36 h2
 rcases qb h with ⟨h3,h⟩ | ⟨h3,h⟩
 ·have hr:decide (((a0.choice.getD []).length:Int)≤5)=r:=Option.some.inj h
  subst hr
  refine qy rfl ?_ (fun _=>by first | rfl | simp only [go_sem,seval]) (by first | rfl | simp only [go_sem,seval])
  rw [qh (show pr.fns 28=some c28 from rfl) (by simp)]
  simp only [go_sem,seval,c28,wh2,h3]
  exact ⟨_,rfl⟩
 ·have hr:false=r:=Option.some.inj h
  subst hr
  refine qy rfl ?_ (fun _=>by first | rfl | simp only [go_sem,seval]) (by first | rfl | simp only [go_sem,seval])
  rw [qh (show pr.fns 28=some c28 from rfl) (by simp)]
  simp only [go_sem,seval,c28,wh2,h3]
  exact ⟨_,rfl⟩
theorem qs2 {b t:Nat} {h:qk} {bb:Bool} {p:Option (List GEl)} {o v:Option (List (Option (List GEl)))} (hv:apO o [p]=some v):appR 1 b h (some t) (some (sl 1 (sl 3 vel) o)) (some (.list bb 1 [sl 3 vel p]))=ifR (decide (b≤4096)) (some ⟨sl 1 (sl 3 vel) v,true,some t,h⟩):=qkn (x:=p) (by omega) rfl hv
theorem qtt {b:Nat} {h:qk} {bb:Bool} {p:Option (List GEl)} {o v:Option (List (Option (List GEl)))} (hv:apO o [p]=some v) (hn:o.isNone=true):appR 1 b h none (some (sl 1 (sl 3 vel) o)) (some (.list bb 1 [sl 3 vel p]))=ifR (decide (b≤4096)) (some ⟨sl 1 (sl 3 vel) v,true,none,h⟩):=qfl (x:=p) (by omega) rfl hn hv
@[go_sem] theorem jgx {n z:Nat} {l:Option (List (Option (List GEl)))}:below n (sl z (sl 3 vel) l)=true:=qfn fun _=>q1o
end Go.Z
