/-
  Chapter 4: choices: functions that mirror the runs, and the runs (printed by walk.py).
-/
import Derived.Test.YtnjngdcbkkonnaaGreatDoorCV
set_option linter.unusedVariables false
set_option linter.unusedSimpArgs false
set_option maxRecDepth 100000
set_option maxHeartbeats 4000000
namespace Go.Z
open Go Go.Abs
noncomputable def f177 (a0:Int) (c0_0:Option (List qi)):Option Bool:=
 cond (decide (a0 < 0))
  (some true)
  (some (decide (((c0_0.getD []).length:Int)≤a0)))
theorem jqn {a0:Int} {c0_0:Option (List qi)} {r} (h:f177 a0 c0_0=some r):jl pr (X pr) 177 [.int .i64 a0,.ptr 0 0] [.cells [(sl 8 qn c0_0,false)]]=some (.bool r,false,[.cells [(sl 8 qn c0_0,false)]]):=by
 unfold f177 at h
 rcases qb h with ⟨h1,h⟩ | ⟨h1,h⟩
 ·have hr:true=r:=Option.some.inj h
  subst hr
  rw [qf (show pr.fns 177=some c177 from rfl) (by simp)]
  simp only [go_sem,seval,c177,h1] <;> rfl
 ·have hr:decide (((c0_0.getD []).length:Int)≤a0)=r:=Option.some.inj h
  subst hr
  rw [qf (show pr.fns 177=some c177 from rfl) (by simp)]
  simp only [go_sem,seval,c177,h1] <;> rfl
noncomputable def qhx (a0:Option (List Int)) (c0_0:Option (List qi)) (s0:Int):Option (Int ⊕ (Int ⊕ Int)):=
 cond (decide (s0 < ((a0.getD []).length:Int)))
  (qd (j7 (a0.getD []) s0) fun v14=>
  qd (f177 v14 c0_0) fun v16=>
  cond v16
   (some (.inr (.inl s0)))
   (some (.inl (qg .i64 (s0 + 1)))))
  (some (.inr (.inr s0)))
def qkm (a0:Option (List Int)) (c0_0:Option (List qi)) (s0:Int):ASt:=⟨[(0,sl 1 qu a0,false),(1,.fn (.func 177) [] [.ptr 0 0],false),(7,.int .i64 ((a0.getD []).length:Int),false),(8,.int .i64 s0,false)],[.cells [(sl 8 qn c0_0,false)]]⟩
def qoe (a0:Option (List Int)) (c0_0:Option (List qi)):Int ⊕ Int→jg × ASt
 | .inl d=>(.ret,⟨[(4,.int .i64 d,false)],[.cells [(sl 8 qn c0_0,false)]]⟩)
 | .inr d=>(.exit 0,⟨[(0,sl 1 qu a0,false),(1,.fn (.func 177) [] [.ptr 0 0],false),(7,.int .i64 ((a0.getD []).length:Int),false),(8,.int .i64 d,false),(9,.bool false,false)],[.cells [(sl 8 qn c0_0,false)]]⟩)
theorem ja3 (a0:Option (List Int)) (c0_0:Option (List qi)) (s0:Int) (r) (h:qhx a0 c0_0 s0=some r):zd pr qf5 (qkm a0 c0_0) (qoe a0 c0_0) s0 r:=by
 unfold qhx at h
 rcases qb h with ⟨h13,h⟩ | ⟨h13,h⟩
 ·obtain ⟨v14,h15,h⟩:=qa h
  obtain ⟨v16,h17,h⟩:=qa h
  have wh17:jl pr (X pr) 177 [.int .i64 v14,.ptr 0 0] [.cells [(sl 8 qn c0_0,false)]]=some (.bool v16,false,[.cells [(sl 8 qn c0_0,false)]]):=jqn h17
  rcases qb h with ⟨h18,h⟩ | ⟨h18,h⟩
  ·cases h
   exact qj (by simp only [go_sem,seval,qf5,qkm,h13,qw h15,wh17,h18,qoe] <;> rfl)
  ·cases h
   exact qo (st':=⟨[(0,sl 1 qu a0,false),(1,.fn (.func 177) [] [.ptr 0 0],false),(7,.int .i64 ((a0.getD []).length:Int),false),(8,.int .i64 (qg .i64 (s0 + 1)),false)],[.cells [(sl 8 qn c0_0,false)]]⟩) (by simp only [go_sem,seval,qf5,qkm,h13,qw h15,wh17,h18] <;> rfl) (jc (Nat.le_refl _))
 ·cases h
  exact qj (by simp only [go_sem,seval,qf5,qkm,h13,qoe] <;> rfl)
theorem q2x (a0:Option (List Int)) (c0_0:Option (List qi)) {s0:Int} {d} (h:itO (qhx a0 c0_0) s0=some d):X pr (.loop qf5) (qkm a0 c0_0 s0)=some (qoe a0 c0_0 d):=zi (ja3 a0 c0_0) (fun d=>by rcases d with d|d <;> (intro hh; cases hh)) h
noncomputable def f208 (a0:Option (List Int)) (c0_0:Option (List qi)):Option Int:=
 qd (itO (qhx a0 c0_0) 0) fun d19=>match d19 with
  | .inl d21=>
   some d21
  | .inr d22=>
   some (-1)
theorem jsl {a0:Option (List Int)} {c0_0:Option (List qi)} {r} (h:f208 a0 c0_0=some r):jl pr (X pr) 208 [sl 1 qu a0,.fn (.func 177) [] [.ptr 0 0]] [.cells [(sl 8 qn c0_0,false)]]=some (.int .i64 r,false,[.cells [(sl 8 qn c0_0,false)]]):=by
 unfold f208 at h
 obtain ⟨d19,h20,h⟩:=qa h
 rcases d19 with d21 | d22
 ·have wh20:X pr (.loop qf5) ⟨[(0,sl 1 qu a0,false),(1,.fn (.func 177) [] [.ptr 0 0],false),(7,.int .i64 ((a0.getD []).length:Int),false),(8,.int .i64 0,false)],[.cells [(sl 8 qn c0_0,false)]]⟩=some (.ret,⟨[(4,.int .i64 d21,false)],[.cells [(sl 8 qn c0_0,false)]]⟩):=q2x a0 c0_0 h20
  have hr:d21=r:=Option.some.inj h
  subst hr
  rw [qf (show pr.fns 208=some c208 from rfl) (by simp)]
  simp only [go_sem,seval,c208,wh20] <;> rfl
 ·have wh20:X pr (.loop qf5) ⟨[(0,sl 1 qu a0,false),(1,.fn (.func 177) [] [.ptr 0 0],false),(7,.int .i64 ((a0.getD []).length:Int),false),(8,.int .i64 0,false)],[.cells [(sl 8 qn c0_0,false)]]⟩=some (.exit 0,⟨[(0,sl 1 qu a0,false),(1,.fn (.func 177) [] [.ptr 0 0],false),(7,.int .i64 ((a0.getD []).length:Int),false),(8,.int .i64 d22,false),(9,.bool false,false)],[.cells [(sl 8 qn c0_0,false)]]⟩):=q2x a0 c0_0 h20
  have hr:(-1)=r:=Option.some.inj h
  subst hr
  rw [qf (show pr.fns 208=some c208 from rfl) (by simp)]
  simp only [go_sem,seval,c208,wh20] <;> rfl
noncomputable def f176 (a0:Option (List Int)) (c0_0:Option (List qi)):Option Bool:=
 qd (f208 a0 c0_0) fun v1=>
 some (decide (0≤v1))
theorem jqd {a0:Option (List Int)} {c0_0:Option (List qi)} {r} (h:f176 a0 c0_0=some r):jl pr (X pr) 176 [sl 1 qu a0,.fn (.func 177) [] [.ptr 0 0]] [.cells [(sl 8 qn c0_0,false)]]=some (.bool r,false,[.cells [(sl 8 qn c0_0,false)]]):=by
 unfold f176 at h
 obtain ⟨v1,h2,h⟩:=qa h
 have wh2:jl pr (X pr) 208 [sl 1 qu a0,.fn (.func 177) [] [.ptr 0 0]] [.cells [(sl 8 qn c0_0,false)]]=some (.int .i64 v1,false,[.cells [(sl 8 qn c0_0,false)]]):=jsl h2
 have hr:decide (0≤v1)=r:=Option.some.inj h
 subst hr
 rw [qf (show pr.fns 176=some c176 from rfl) (by simp)]
 simp only [go_sem,seval,c176,wh2] <;> rfl
noncomputable def f133 (a0:Option (List qi)) (a1:Option (List Int)):Option Int:=
 qd (f176 a1 a0) fun v1=>
 qd (f23 a0) fun v3=>
 qd (f106 (decide (3 < ((a1.getD []).length:Int))) 5) fun v5=>
 qd (f106 v1 10) fun v7=>
 qd (f105 (some [v3,v5,v7])) fun v9=>
 some v9
theorem q1k {a0:Option (List qi)} {a1:Option (List Int)} {r} (h:f133 a0 a1=some r):qc pr (X pr) 133 [sl 8 qn a0,sl 1 qu a1]=some (.int .i64 r,false):=by
 unfold f133 at h
 obtain ⟨v1,h2,h⟩:=qa h
 have wh2:jl pr (X pr) 176 [sl 1 qu a1,.fn (.func 177) [] [.ptr 0 0]] [.cells [(sl 8 qn a0,false)]]=some (.bool v1,false,[.cells [(sl 8 qn a0,false)]]):=jqd h2
 obtain ⟨v3,h4,h⟩:=qa h
 obtain ⟨v5,h6,h⟩:=qa h
 have wh6:qc pr (X pr) 106 [.bool (decide (3 < ((a1.getD []).length:Int))),.int .i64 5]=some (.int .i64 v5,false):=qb8 h6
 obtain ⟨v7,h8,h⟩:=qa h
 obtain ⟨v9,h10,h⟩:=qa h
 have wh10:qc pr (X pr) 105 [.list false 1 [.int .i64 v3,.int .i64 v5,.int .i64 v7]]=some (.int .i64 v9,false):=qhm h10
 have hr:v9=r:=Option.some.inj h
 subst hr
 refine qp rfl ?_ (fun _=>by first | rfl | simp only [go_sem,seval]) (by first | rfl | simp only [go_sem,seval])
 rw [qf (show pr.fns 133=some c133 from rfl) (by simp)]
 simp only [go_sem,seval,c133,wh2,W23 h4,wh6,qb8 h8,wh10]
 exact ⟨_,rfl⟩
noncomputable def f30 (a0:Option (List Int)):Option (Option (List Int)):=
 qd (apO (some []) (a0.getD [])) fun v1=>
 some v1
theorem W30 {a0:Option (List Int)} {r} (h:f30 a0=some r):qc pr (X pr) 30 [sl 1 qu a0]=some (sl 1 qu r,true):=by
 unfold f30 at h
 obtain ⟨v1,h2,h⟩:=qa h
 have hr:v1=r:=Option.some.inj h
 subst hr
 have this:∃ hh,jl pr (X pr) 30 [sl 1 qu a0] []=some (sl 1 qu v1,true,hh):=by
  rw [qf (show pr.fns 30=some c30 from rfl) (by simp)]
  simp only [go_sem,seval,c30,qb1 h2]
  exact ⟨_,rfl⟩
 obtain ⟨hh,this⟩:=this
 exact zt rfl this (by first | rfl | simp only [go_sem,seval]) (by first | rfl | simp only [go_sem,seval]) (by first | rfl | simp only [go_sem,seval])
noncomputable def qlu (a0:Option (List qi)) (a1:Option (List Int)) (s0:Int):Option (Int ⊕ (Unit ⊕ Int)):=
 cond (decide (s0 < ((a1.getD []).length:Int)))
  (qd (j7 (a1.getD []) s0) fun v13=>
  cond (decide (v13 < 0))
   (some (.inr (.inl ())))
   (cond (decide (((a0.getD []).length:Int)≤v13))
    (some (.inr (.inl ())))
    (some (.inl (qg .i64 (s0 + 1))))))
  (some (.inr (.inr s0)))
def qj5 (a0:Option (List qi)) (a1:Option (List Int)) (s0:Int):ASt:=⟨[(0,sl 8 qn a0,false),(1,sl 1 qu a1,false),(5,.int .i64 s0,false)],[]⟩
def qms (a0:Option (List qi)) (a1:Option (List Int)):Unit ⊕ Int→jg × ASt
 | .inl d=>(.ret,⟨[(4,.int .i64 10,false)],[]⟩)
 | .inr d=>(.exit 0,⟨[(0,sl 8 qn a0,false),(1,sl 1 qu a1,false),(5,.int .i64 d,false),(12,.bool false,false)],[]⟩)
theorem jie (a0:Option (List qi)) (a1:Option (List Int)) (s0:Int) (r) (h:qlu a0 a1 s0=some r):zd pr qgm (qj5 a0 a1) (qms a0 a1) s0 r:=by
 unfold qlu at h
 rcases qb h with ⟨h12,h⟩ | ⟨h12,h⟩
 ·obtain ⟨v13,h14,h⟩:=qa h
  rcases qb h with ⟨h15,h⟩ | ⟨h15,h⟩
  ·cases h
   exact qj (by simp only [go_sem,seval,qgm,qj5,h12,qw h14,h15,qms] <;> rfl)
  ·rcases qb h with ⟨h16,h⟩ | ⟨h16,h⟩
   ·cases h
    exact qj (by simp only [go_sem,seval,qgm,qj5,h12,qw h14,h15,h16,qms] <;> rfl)
   ·cases h
    exact qo (st':=⟨[(0,sl 8 qn a0,false),(1,sl 1 qu a1,false),(5,.int .i64 (qg .i64 (s0 + 1)),false)],[]⟩) (by simp only [go_sem,seval,qgm,qj5,h12,qw h14,h15,h16] <;> rfl) (jc (Nat.le_refl _))
 ·cases h
  exact qj (by simp only [go_sem,seval,qgm,qj5,h12,qms] <;> rfl)
theorem q7j (a0:Option (List qi)) (a1:Option (List Int)) {s0:Int} {d} (h:itO (qlu a0 a1) s0=some d):X pr (.loop qgm) (qj5 a0 a1 s0)=some (qms a0 a1 d):=zi (jie a0 a1) (fun d=>by rcases d with d|d <;> (intro hh; cases hh)) h
noncomputable def f33 (a0:Option (List qi)) (a1:Option (List Int)):Option Int:=
 cond (decide (3 < ((a1.getD []).length:Int)))
  (some 5)
  (qd (itO (qlu a0 a1) 0) fun d17=>match d17 with
   | .inl d19=>
    some 10
   | .inr d20=>
    some 0)
theorem W33 {a0:Option (List qi)} {a1:Option (List Int)} {r} (h:f33 a0 a1=some r):qc pr (X pr) 33 [sl 8 qn a0,sl 1 qu a1]=some (.int .i64 r,false):=by
 unfold f33 at h
 rcases qb h with ⟨h1,h⟩ | ⟨h1,h⟩
 ·have hr:5=r:=Option.some.inj h
  subst hr
  refine qp rfl ?_ (fun _=>by first | rfl | simp only [go_sem,seval]) (by first | rfl | simp only [go_sem,seval])
  rw [qf (show pr.fns 33=some c33 from rfl) (by simp)]
  simp only [go_sem,seval,c33,h1]
  exact ⟨_,rfl⟩
 ·obtain ⟨d17,h18,h⟩:=qa h
  rcases d17 with d19 | d20
  ·have wh18:X pr (.loop qgm) ⟨[(0,sl 8 qn a0,false),(1,sl 1 qu a1,false),(5,.int .i64 0,false)],[]⟩=some (.ret,⟨[(4,.int .i64 10,false)],[]⟩):=q7j a0 a1 h18
   have hr:10=r:=Option.some.inj h
   subst hr
   refine qp rfl ?_ (fun _=>by first | rfl | simp only [go_sem,seval]) (by first | rfl | simp only [go_sem,seval])
   rw [qf (show pr.fns 33=some c33 from rfl) (by simp)]
   simp only [go_sem,seval,c33,h1,wh18]
   exact ⟨_,rfl⟩
  ·have wh18:X pr (.loop qgm) ⟨[(0,sl 8 qn a0,false),(1,sl 1 qu a1,false),(5,.int .i64 0,false)],[]⟩=some (.exit 0,⟨[(0,sl 8 qn a0,false),(1,sl 1 qu a1,false),(5,.int .i64 d20,false),(12,.bool false,false)],[]⟩):=q7j a0 a1 h18
   have hr:0=r:=Option.some.inj h
   subst hr
   refine qp rfl ?_ (fun _=>by first | rfl | simp only [go_sem,seval]) (by first | rfl | simp only [go_sem,seval])
   rw [qf (show pr.fns 33=some c33 from rfl) (by simp)]
   simp only [go_sem,seval,c33,h1,wh18]
   exact ⟨_,rfl⟩
noncomputable def f36 (a0:Option (List qi)) (a1:Option (List ja)) (a2:Int):Option Bool:=
 qd (f17 a0) fun v1=>
 cond v1
  (cond (decide (((a1.getD []).length:Int)≤4))
   (cond (decide (a2≤2))
    (some true)
    (cond (decide (3 < a2))
     (some true)
     (some (decide (((a0.getD []).length:Int)≤2)))))
   (cond (decide (((a1.getD []).length:Int)=9))
    (cond (decide (a2≤2))
     (some true)
     (cond (decide (3 < a2))
      (some true)
      (some (decide (((a0.getD []).length:Int)≤2)))))
    (some false)))
  (some false)
theorem W36 {a0:Option (List qi)} {a1:Option (List ja)} {a2:Int} {r} (h:f36 a0 a1 a2=some r):qc pr (X pr) 36 [sl 8 qn a0,sl 5 jd a1,.int .i64 a2]=some (.bool r,false):=by
 unfold f36 at h
 obtain ⟨v1,h2,h⟩:=qa h
 rcases qb h with ⟨h3,h⟩ | ⟨h3,h⟩
 ·rcases qb h with ⟨h4,h⟩ | ⟨h4,h⟩
  ·rcases qb h with ⟨h5,h⟩ | ⟨h5,h⟩
   ·have hr:true=r:=Option.some.inj h
    subst hr
    refine qp rfl ?_ (fun _=>by first | rfl | simp only [go_sem,seval]) (by first | rfl | simp only [go_sem,seval])
    rw [qf (show pr.fns 36=some c36 from rfl) (by simp)]
    simp only [go_sem,seval,c36,W17 h2,h3,h4,h5]
    exact ⟨_,rfl⟩
   ·rcases qb h with ⟨h6,h⟩ | ⟨h6,h⟩
    ·have hr:true=r:=Option.some.inj h
     subst hr
     refine qp rfl ?_ (fun _=>by first | rfl | simp only [go_sem,seval]) (by first | rfl | simp only [go_sem,seval])
     rw [qf (show pr.fns 36=some c36 from rfl) (by simp)]
     simp only [go_sem,seval,c36,W17 h2,h3,h4,h5,h6]
     exact ⟨_,rfl⟩
    ·have hr:decide (((a0.getD []).length:Int)≤2)=r:=Option.some.inj h
     subst hr
     refine qp rfl ?_ (fun _=>by first | rfl | simp only [go_sem,seval]) (by first | rfl | simp only [go_sem,seval])
     rw [qf (show pr.fns 36=some c36 from rfl) (by simp)]
     simp only [go_sem,seval,c36,W17 h2,h3,h4,h5,h6]
     exact ⟨_,rfl⟩
  ·rcases qb h with ⟨h7,h⟩ | ⟨h7,h⟩
   ·rcases qb h with ⟨h8,h⟩ | ⟨h8,h⟩
    ·have hr:true=r:=Option.some.inj h
     subst hr
     refine qp rfl ?_ (fun _=>by first | rfl | simp only [go_sem,seval]) (by first | rfl | simp only [go_sem,seval])
     rw [qf (show pr.fns 36=some c36 from rfl) (by simp)]
     simp only [go_sem,seval,c36,W17 h2,h3,h4,h7,h8]
     exact ⟨_,rfl⟩
    ·rcases qb h with ⟨h9,h⟩ | ⟨h9,h⟩
     ·have hr:true=r:=Option.some.inj h
      subst hr
      refine qp rfl ?_ (fun _=>by first | rfl | simp only [go_sem,seval]) (by first | rfl | simp only [go_sem,seval])
      rw [qf (show pr.fns 36=some c36 from rfl) (by simp)]
      simp only [go_sem,seval,c36,W17 h2,h3,h4,h7,h8,h9]
      exact ⟨_,rfl⟩
     ·have hr:decide (((a0.getD []).length:Int)≤2)=r:=Option.some.inj h
      subst hr
      refine qp rfl ?_ (fun _=>by first | rfl | simp only [go_sem,seval]) (by first | rfl | simp only [go_sem,seval])
      rw [qf (show pr.fns 36=some c36 from rfl) (by simp)]
      simp only [go_sem,seval,c36,W17 h2,h3,h4,h7,h8,h9]
      exact ⟨_,rfl⟩
   ·have hr:false=r:=Option.some.inj h
    subst hr
    refine qp rfl ?_ (fun _=>by first | rfl | simp only [go_sem,seval]) (by first | rfl | simp only [go_sem,seval])
    rw [qf (show pr.fns 36=some c36 from rfl) (by simp)]
    simp only [go_sem,seval,c36,W17 h2,h3,h4,h7]
    exact ⟨_,rfl⟩
 ·have hr:false=r:=Option.some.inj h
  subst hr
  refine qp rfl ?_ (fun _=>by first | rfl | simp only [go_sem,seval]) (by first | rfl | simp only [go_sem,seval])
  rw [qf (show pr.fns 36=some c36 from rfl) (by simp)]
  simp only [go_sem,seval,c36,W17 h2,h3]
  exact ⟨_,rfl⟩
end Go.Z
/-
 Chapter 4: the extremes of a choice,in the program.
-/
namespace Go.Z
open Go Go.Abs
theorem jp3 {ps:Option (List qi)} {ch:Option (List Int)} {c:Bool}:qc pr (X pr) 159 [sl 8 qn ps,sl 1 qu ch,.bool c]=some (.fn (.func 196) [] [.vptr (sl 1 qu ch),.vptr (sl 8 qn ps),.vptr (.bool c)],false):=by
 have this:∃ hh,jl pr (X pr) 159 [sl 8 qn ps,sl 1 qu ch,.bool c] []=some (.fn (.func 196) [] [.vptr (sl 1 qu ch),.vptr (sl 8 qn ps),.vptr (.bool c)],false,hh):=by
  rw [qf (show pr.fns 159=some c159 from rfl) (by simp)]
  simp only [go_sem,seval,c159]
  exact ⟨_,rfl⟩
 obtain ⟨hh,this⟩:=this
 have h1:Abs.below 0 (sl 1 qu ch)=true:=by simp only [go_sem,seval]
 have h2:Abs.below 0 (sl 8 qn ps)=true:=by simp only [go_sem,seval]
 have hp:Abs.below 0 (.fn (.func 196) [] [.vptr (sl 1 qu ch),.vptr (sl 8 qn ps),.vptr (.bool c)])=true:=by
  show (true && (Abs.below 0 (sl 1 qu ch) && (Abs.below 0 (sl 8 qn ps) && (true && true))))=true
  rw [h1,h2]; rfl
 exact qc9 rfl this (by first | rfl | simp only [go_sem,seval]) (by first | exact hp | simp only [go_sem,seval])
end Go.Z
