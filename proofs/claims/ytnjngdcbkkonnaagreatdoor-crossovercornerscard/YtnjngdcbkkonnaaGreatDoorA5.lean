/- Chapter 4. -/
import Derived.Test.YtnjngdcbkkonnaaGreatDoorA4
set_option linter.unusedVariables false
set_option linter.unusedSimpArgs false
set_option maxRecDepth 100000
set_option maxHeartbeats 4000000
namespace Go.Z
open Go Go.Abs
noncomputable def f132 (a0:yb) (a1:GRat) (c0_0:Int) (c0_1:Int):Option ((GRat × Int)):=
 cond (decide (a0.m0=0) && decide (a0.m1=0))
  (some (⟨0,0⟩,17))
  (qe (f175 a1) fun v2=>
  qe (f175 (⟨a0.m0,a0.m1⟩)) fun v4=>
  qe (f174 v2 v4) fun v6=>
  some (v6,0))
theorem jqz {a0:yb} {a1:GRat} {c0_0:Int} {c0_1:Int} {r} (h:f132 a0 a1 c0_0 c0_1=some r):jl pr (X pr) 132 [.agg [.int .i64 a0.m0,.int .i64 a0.m1,.int .i64 a0.m2,.int .i64 a0.m3,.int .i64 a0.m4,.int .i64 a0.m5,.int .i64 a0.m6,.int .i64 a0.m7],.agg [.int .i64 a1.num,.int .i64 a1.den]] [.cells [(.int .i64 c0_0,false),(.int .i64 c0_1,false)]]=some (.tup [.agg [.int .i64 r.1.num,.int .i64 r.1.den],.int .i64 r.2],false,[.cells [(.int .i64 c0_0,false),(.int .i64 c0_1,false)],.cells [(.int .i64 r.1.num,false),(.int .i64 r.1.den,false)]]):=by
 unfold f132 at h
 rcases qb h with ⟨h1,h⟩ | ⟨h1,h⟩
 ·have hr:(⟨0,0⟩,17)=r:=Option.some.inj h
  subst hr
  rw [qh (show pr.fns 132=some c132 from rfl) (by simp)]
  simp only [go_sem,seval,c132,h1] <;> rfl
 ·obtain ⟨v2,h3,h⟩:=qa h
  have wh3:qc pr (X pr) 175 [.agg [.int .i64 a1.num,.int .i64 a1.den]]=some (.int .i64 v2,false):=jdo h3
  obtain ⟨v4,h5,h⟩:=qa h
  have wh5:qc pr (X pr) 175 [.agg [.int .i64 a0.m0,.int .i64 a0.m1]]=some (.int .i64 v4,false):=jdo h5
  obtain ⟨v6,h7,h⟩:=qa h
  have hr:(v6,0)=r:=Option.some.inj h
  subst hr
  rw [qh (show pr.fns 132=some c132 from rfl) (by simp)]
  simp only [go_sem,seval,c132,h1,wh3,wh5,jsm h7] <;> rfl
noncomputable def f131 (a0:Option (List GEl)) (a1:Int):Option (GRat × Int):=
 qe (f158 a0) fun v1=>
 qe (f172 a1) fun v3=>
 qe (f171 (some [v1,v3])) fun v5=>
 cond (decide (v5=0))
  (qe (f173 a0 a1) fun v8=>
  qe (f132 v8.1 v8.2 0 0) fun v10=>
  some (v10.1,v10.2))
  (some (⟨0,0⟩,v5))
theorem js9 {a0:Option (List GEl)} {a1:Int} {r} (h:f131 a0 a1=some r):qc pr (X pr) 131 [sl 3 vel a0,.int .i64 a1,.fn (.func 132) [] []]=some (.tup [.agg [.int .i64 r.1.num,.int .i64 r.1.den],.int .i64 r.2],false):=by
 unfold f131 at h
 obtain ⟨v1,h2,h⟩:=qa h
 obtain ⟨v3,h4,h⟩:=qa h
 obtain ⟨v5,h6,h⟩:=qa h
 have wh6:qc pr (X pr) 171 [.list false 1 [.int .i64 v1,.int .i64 v3]]=some (.int .i64 v5,false):=qog h6
 rcases qb h with ⟨h7,h⟩ | ⟨h7,h⟩
 ·obtain ⟨v8,h9,h⟩:=qa h
  obtain ⟨v10,h11,h⟩:=qa h
  have wh11:jl pr (X pr) 132 [.agg [.int .i64 v8.1.m0,.int .i64 v8.1.m1,.int .i64 v8.1.m2,.int .i64 v8.1.m3,.int .i64 v8.1.m4,.int .i64 v8.1.m5,.int .i64 v8.1.m6,.int .i64 v8.1.m7],.agg [.int .i64 v8.2.num,.int .i64 v8.2.den]] [.cells [(.int .i64 0,false),(.int .i64 0,false)]]=some (.tup [.agg [.int .i64 v10.1.num,.int .i64 v10.1.den],.int .i64 v10.2],false,[.cells [(.int .i64 0,false),(.int .i64 0,false)],.cells [(.int .i64 v10.1.num,false),(.int .i64 v10.1.den,false)]]):=jqz h11
  have hr:(v10.1,v10.2)=r:=Option.some.inj h
  subst hr
  refine qy rfl ?_ (fun _=>by first | rfl | simp only [go_sem,seval]) (by first | rfl | simp only [go_sem,seval])
  rw [qh (show pr.fns 131=some c131 from rfl) (by simp)]
  simp only [go_sem,seval,c131,q2s h2,jfz h4,wh6,h7,jrs h9,wh11]
  exact ⟨_,rfl⟩
 ·have hr:(⟨0,0⟩,v5)=r:=Option.some.inj h
  subst hr
  refine qy rfl ?_ (fun _=>by first | rfl | simp only [go_sem,seval]) (by first | rfl | simp only [go_sem,seval])
  rw [qh (show pr.fns 131=some c131 from rfl) (by simp)]
  simp only [go_sem,seval,c131,q2s h2,jfz h4,wh6,h7]
  exact ⟨_,rfl⟩
noncomputable def f57 (a0:Option (List GEl)) (a1:Int):Option (GRat × Int):=
 qe (f131 a0 a1) fun v1=>
 some (v1.1,v1.2)
theorem W57 {a0:Option (List GEl)} {a1:Int} {r} (h:f57 a0 a1=some r):qc pr (X pr) 57 [sl 3 vel a0,.int .i64 a1]=some (.tup [.agg [.int .i64 r.1.num,.int .i64 r.1.den],.int .i64 r.2],false):=by
 unfold f57 at h
 obtain ⟨v1,h2,h⟩:=qa h
 have wh2:qc pr (X pr) 131 [sl 3 vel a0,.int .i64 a1,.fn (.func 132) [] []]=some (.tup [.agg [.int .i64 v1.1.num,.int .i64 v1.1.den],.int .i64 v1.2],false):=js9 h2
 have hr:(v1.1,v1.2)=r:=Option.some.inj h
 subst hr
 refine qy rfl ?_ (fun _=>by first | rfl | simp only [go_sem,seval]) (by first | rfl | simp only [go_sem,seval])
 rw [qh (show pr.fns 57=some c57 from rfl) (by simp)]
 simp only [go_sem,seval,c57,wh2]
 exact ⟨_,rfl⟩
noncomputable def f165 (a0:Int) (a1:Int):Option (Int × Int):=
 qe (qn1 .u64 a0 32) fun v1=>
 qe (qn1 .u64 a1 32) fun v3=>
 qe (qn1 .u64 (qf .u64 ((ql5 .and .u64 a0 4294967295) * (ql5 .and .u64 a1 4294967295))) 32) fun v5=>
 qe (qn1 .u64 (qf .u64 ((qf .u64 (v1 * (ql5 .and .u64 a1 4294967295))) + v5)) 32) fun v7=>
 qe (qn1 .u64 (qf .u64 ((ql5 .and .u64 (qf .u64 ((qf .u64 (v1 * (ql5 .and .u64 a1 4294967295))) + v5)) 4294967295) + (qf .u64 ((ql5 .and .u64 a0 4294967295) * v3)))) 32) fun v9=>
 some (qf .u64 ((qf .u64 ((qf .u64 (v1 * v3)) + v7)) + v9),qf .u64 (a0 * a1))
theorem jdw {a0:Int} {a1:Int} {r} (h:f165 a0 a1=some r):qc pr (X pr) 165 [.int .u64 a0,.int .u64 a1]=some (.tup [.int .u64 r.1,.int .u64 r.2],false):=by
 unfold f165 at h
 obtain ⟨v1,h2,h⟩:=qa h
 obtain ⟨v3,h4,h⟩:=qa h
 obtain ⟨v5,h6,h⟩:=qa h
 obtain ⟨v7,h8,h⟩:=qa h
 obtain ⟨v9,h10,h⟩:=qa h
 have hr:(qf .u64 ((qf .u64 ((qf .u64 (v1 * v3)) + v7)) + v9),qf .u64 (a0 * a1))=r:=Option.some.inj h
 subst hr
 refine qy rfl ?_ (fun _=>by first | rfl | simp only [go_sem,seval]) (by first | rfl | simp only [go_sem,seval])
 rw [qh (show pr.fns 165=some c165 from rfl) (by simp)]
 simp only [go_sem,seval,c165,qkv h2,qkv h4,qkv h6,qkv h8,qkv h10]
 exact ⟨_,rfl⟩
noncomputable def f127 (a0:GRat) (a1:GRat):Option Bool:=
 qe (f165 (qf .u64 a0.num) (qf .u64 a1.den)) fun v1=>
 qe (f165 (qf .u64 a1.num) (qf .u64 a0.den)) fun v3=>
 cond (decide (v3.1 < v1.1))
  (some true)
  (cond (decide (v1.1=v3.1))
   (some (decide (v3.2 < v1.2)))
   (some false))
theorem qv9 {a0:GRat} {a1:GRat} {r} (h:f127 a0 a1=some r):qc pr (X pr) 127 [.agg [.int .i64 a0.num,.int .i64 a0.den],.agg [.int .i64 a1.num,.int .i64 a1.den]]=some (.bool r,false):=by
 unfold f127 at h
 obtain ⟨v1,h2,h⟩:=qa h
 have wh2:qc pr (X pr) 165 [.int .u64 (qf .u64 a0.num),.int .u64 (qf .u64 a1.den)]=some (.tup [.int .u64 v1.1,.int .u64 v1.2],false):=jdw h2
 obtain ⟨v3,h4,h⟩:=qa h
 have wh4:qc pr (X pr) 165 [.int .u64 (qf .u64 a1.num),.int .u64 (qf .u64 a0.den)]=some (.tup [.int .u64 v3.1,.int .u64 v3.2],false):=jdw h4
 rcases qb h with ⟨h5,h⟩ | ⟨h5,h⟩
 ·have hr:true=r:=Option.some.inj h
  subst hr
  refine qy rfl ?_ (fun _=>by first | rfl | simp only [go_sem,seval]) (by first | rfl | simp only [go_sem,seval])
  rw [qh (show pr.fns 127=some c127 from rfl) (by simp)]
  simp only [go_sem,seval,c127,wh2,wh4,h5]
  exact ⟨_,rfl⟩
 ·rcases qb h with ⟨h6,h⟩ | ⟨h6,h⟩
  ·have hr:decide (v3.2 < v1.2)=r:=Option.some.inj h
   subst hr
   refine qy rfl ?_ (fun _=>by first | rfl | simp only [go_sem,seval]) (by first | rfl | simp only [go_sem,seval])
   rw [qh (show pr.fns 127=some c127 from rfl) (by simp)]
   simp only [go_sem,seval,c127,wh2,wh4,h5,h6]
   exact ⟨_,rfl⟩
  ·have hr:false=r:=Option.some.inj h
   subst hr
   refine qy rfl ?_ (fun _=>by first | rfl | simp only [go_sem,seval]) (by first | rfl | simp only [go_sem,seval])
   rw [qh (show pr.fns 127=some c127 from rfl) (by simp)]
   simp only [go_sem,seval,c127,wh2,wh4,h5,h6]
   exact ⟨_,rfl⟩
noncomputable def F58 (rec:GRat→GRat→Option Bool) (a0:GRat) (a1:GRat):Option Bool:=
 qe (qd6 .i64 a0.num a0.den) fun v1=>
 qe (qd6 .i64 a1.num a1.den) fun v3=>
 cond (decide (v1=v3))
  (qe (qeq a0.num a0.den) fun v6=>
  qe (qeq a1.num a1.den) fun v8=>
  cond (decide (v6=0))
   (some (!decide (v8=0)))
   (cond (decide (v8=0))
    (some false)
    (qe (rec (⟨a1.den,v8⟩) (⟨a0.den,v6⟩)) fun v12=>
    some v12)))
  (some (decide (v1 < v3)))
theorem jsh {rec:GRat→GRat→Option Bool} (hrec:∀ {a0:GRat} {a1:GRat} {r},rec a0 a1=some r→qc pr (X pr) 58 [.agg [.int .i64 a0.num,.int .i64 a0.den],.agg [.int .i64 a1.num,.int .i64 a1.den]]=some (.bool r,false)) {a0:GRat} {a1:GRat} {r} (h:F58 rec a0 a1=some r):qc pr (X pr) 58 [.agg [.int .i64 a0.num,.int .i64 a0.den],.agg [.int .i64 a1.num,.int .i64 a1.den]]=some (.bool r,false):=by
 unfold F58 at h
 obtain ⟨v1,h2,h⟩:=qa h
 obtain ⟨v3,h4,h⟩:=qa h
 rcases qb h with ⟨h5,h⟩ | ⟨h5,h⟩
 ·obtain ⟨v6,h7,h⟩:=qa h
  obtain ⟨v8,h9,h⟩:=qa h
  rcases qb h with ⟨h10,h⟩ | ⟨h10,h⟩
  ·have hr:(!decide (v8=0))=r:=Option.some.inj h
   subst hr
   refine qy rfl ?_ (fun _=>by first | rfl | simp only [go_sem,seval]) (by first | rfl | simp only [go_sem,seval])
   rw [qh (show pr.fns 58=some c58 from rfl) (by simp)]
   simp only [go_sem,seval,c58,qat h2,qat h4,h5,qan h7,qan h9,h10]
   exact ⟨_,rfl⟩
  ·rcases qb h with ⟨h11,h⟩ | ⟨h11,h⟩
   ·have hr:false=r:=Option.some.inj h
    subst hr
    refine qy rfl ?_ (fun _=>by first | rfl | simp only [go_sem,seval]) (by first | rfl | simp only [go_sem,seval])
    rw [qh (show pr.fns 58=some c58 from rfl) (by simp)]
    simp only [go_sem,seval,c58,qat h2,qat h4,h5,qan h7,qan h9,h10,h11]
    exact ⟨_,rfl⟩
   ·obtain ⟨v12,h13,h⟩:=qa h
    have wh13:qc pr (X pr) 58 [.agg [.int .i64 a1.den,.int .i64 v8],.agg [.int .i64 a0.den,.int .i64 v6]]=some (.bool v12,false):=hrec h13
    have hr:v12=r:=Option.some.inj h
    subst hr
    refine qy rfl ?_ (fun _=>by first | rfl | simp only [go_sem,seval]) (by first | rfl | simp only [go_sem,seval])
    rw [qh (show pr.fns 58=some c58 from rfl) (by simp)]
    simp only [go_sem,seval,c58,qat h2,qat h4,h5,qan h7,qan h9,h10,h11,wh13]
    exact ⟨_,rfl⟩
 ·have hr:decide (v1 < v3)=r:=Option.some.inj h
  subst hr
  refine qy rfl ?_ (fun _=>by first | rfl | simp only [go_sem,seval]) (by first | rfl | simp only [go_sem,seval])
  rw [qh (show pr.fns 58=some c58 from rfl) (by simp)]
  simp only [go_sem,seval,c58,qat h2,qat h4,h5]
  exact ⟨_,rfl⟩
noncomputable def f58:Nat→GRat→GRat→Option Bool
 | 0=>fun _ _=>none
 | n + 1=>F58 (f58 n)
theorem W58:∀ (n:Nat) {a0:GRat} {a1:GRat} {r} (h:f58 n a0 a1=some r),qc pr (X pr) 58 [.agg [.int .i64 a0.num,.int .i64 a0.den],.agg [.int .i64 a1.num,.int .i64 a1.den]]=some (.bool r,false)
 | 0,_,_,_,h=>by cases h
 | n + 1,_,_,_,h=>jsh (W58 n) h
noncomputable def f34 (a0:Int):Option Int:=
 qe (f40 a0 1 8) fun v1=>
 some v1
theorem W34 {a0:Int} {r} (h:f34 a0=some r):qc pr (X pr) 34 [.int .i64 a0]=some (.int .i64 r,false):=by
 unfold f34 at h
 obtain ⟨v1,h2,h⟩:=qa h
 have hr:v1=r:=Option.some.inj h
 subst hr
 refine qy rfl ?_ (fun _=>by first | rfl | simp only [go_sem,seval]) (by first | rfl | simp only [go_sem,seval])
 rw [qh (show pr.fns 34=some c34 from rfl) (by simp)]
 simp only [go_sem,seval,c34,W40 h2]
 exact ⟨_,rfl⟩
noncomputable def f32 (a0:Option (List Int)):Option Int:=
 qe (f100 a0) fun v1=>
 some v1
theorem W32 {a0:Option (List Int)} {r} (h:f32 a0=some r):qc pr (X pr) 32 [sl 1 qo a0]=some (.int .i64 r,false):=by
 unfold f32 at h
 obtain ⟨v1,h2,h⟩:=qa h
 have hr:v1=r:=Option.some.inj h
 subst hr
 refine qy rfl ?_ (fun _=>by first | rfl | simp only [go_sem,seval]) (by first | rfl | simp only [go_sem,seval])
 rw [qh (show pr.fns 32=some c32 from rfl) (by simp)]
 simp only [go_sem,seval,c32,qwh h2]
 exact ⟨_,rfl⟩
noncomputable def qmf (a0:Option (List GEl)) (s0:(Option (List GEl)) × Int × Bool):Option (((Option (List GEl)) × Int × Bool) ⊕ (((Option (List GEl)) × Bool × Int))):=
 cond (decide (s0.2.1 < ((a0.getD []).length:Int)))
  (qe (zw (a0.getD []) s0.2.1) fun v14=>
  cond s0.2.2
   (qe (apO s0.1 [v14]) fun v17=>
   some (.inl (v17,qf .i64 (s0.2.1 + 1),true)))
   (cond s0.1.isNone
    (qe (apO s0.1 [v14]) fun v20=>
    some (.inl (v20,qf .i64 (s0.2.1 + 1),true)))
    (none)))
  (some (.inr (s0.1,s0.2.2,s0.2.1)))
def qe0 (a0:Option (List GEl)) (s0:(Option (List GEl)) × Int × Bool):ASt:=⟨[(3,sl 3 vel s0.1,s0.2.2),(6,sl 3 vel a0,false),(7,.int .i64 ((a0.getD []).length:Int),false),(8,.int .i64 s0.2.1,false)],[]⟩
def qxk (a0:Option (List GEl)) (d:((Option (List GEl)) × Bool × Int)):ji × ASt:=(.exit 0,⟨[(3,sl 3 vel d.1,d.2.1),(6,sl 3 vel a0,false),(7,.int .i64 ((a0.getD []).length:Int),false),(8,.int .i64 d.2.2,false),(9,.bool false,false)],[]⟩)
theorem jll (a0:Option (List GEl)) (s0:(Option (List GEl)) × Int × Bool) (r) (h:qmf a0 s0=some r):zj pr ql7 (qe0 a0) (qxk a0) s0 r:=by
 unfold qmf at h
 rcases qb h with ⟨h13,h⟩ | ⟨h13,h⟩
 ·obtain ⟨v14,h15,h⟩:=qa h
  rcases qb h with ⟨h16,h⟩ | ⟨h16,h⟩
  ·obtain ⟨v17,h18,h⟩:=qa h
   cases h
   exact qq (st':=⟨[(3,sl 3 vel v17,true),(6,sl 3 vel a0,false),(7,.int .i64 ((a0.getD []).length:Int),false),(8,.int .i64 (qf .i64 (s0.2.1 + 1)),false)],[]++[.cells [(.str v14.kind,false),(.int .i64 v14.a,false),(.int .i64 v14.b,false)]]⟩) (by simp only [go_sem,seval,ql7,qe0,h13,q9 h15,h16,qd8 h18] <;> rfl) (zz rfl rfl (by first | simp only [go_sem,seval,qe0] | rfl) (by first | simp only [go_sem,seval,qe0] | rfl))
  ·rcases qb h with ⟨h19,h⟩ | ⟨h19,h⟩
   ·obtain ⟨v20,h21,h⟩:=qa h
    cases h
    exact qq (st':=⟨[(3,sl 3 vel v20,true),(6,sl 3 vel a0,false),(7,.int .i64 ((a0.getD []).length:Int),false),(8,.int .i64 (qf .i64 (s0.2.1 + 1)),false)],[]++[.cells [(.str v14.kind,false),(.int .i64 v14.a,false),(.int .i64 v14.b,false)]]⟩) (by simp only [go_sem,seval,ql7,qe0,h13,q9 h15,h16,h19,qiw h21 h19] <;> rfl) (zz rfl rfl (by first | simp only [go_sem,seval,qe0] | rfl) (by first | simp only [go_sem,seval,qe0] | rfl))
   ·cases h
 ·cases h
  exact qj (by simp only [go_sem,seval,ql7,qe0,h13,qxk] <;> rfl)
theorem jjr (a0:Option (List GEl)) {s0:(Option (List GEl)) × Int × Bool} {d} (h:itO (qmf a0) s0=some d):X pr (.loop ql7) (qe0 a0 s0)=some (qxk a0 d):=z7 (jll a0) (fun d hh=>by cases hh) h
noncomputable def f46 (a0:Option (List GEl)):Option ((Option (List GEl)) × Bool):=
 qe (itO (qmf a0) (none,0,false)) fun d22=>
 some (d22.1,d22.2.1)
theorem W46 {a0:Option (List GEl)} {r} (h:f46 a0=some r):qc pr (X pr) 46 [sl 3 vel a0]=some (sl 3 vel r.1,r.2):=by
 unfold f46 at h
 obtain ⟨d22,h23,h⟩:=qa h
 have wh23:X pr (.loop ql7) ⟨[(3,.list true 0 [],false),(6,sl 3 vel a0,false),(7,.int .i64 ((a0.getD []).length:Int),false),(8,.int .i64 0,false)],[]⟩=some (.exit 0,⟨[(3,sl 3 vel d22.1,d22.2.1),(6,sl 3 vel a0,false),(7,.int .i64 ((a0.getD []).length:Int),false),(8,.int .i64 d22.2.2,false),(9,.bool false,false)],[]⟩):=jjr a0 h23
 have hr:(d22.1,d22.2.1)=r:=Option.some.inj h
 subst hr
 have this:∃ hh,jl pr (X pr) 46 [sl 3 vel a0] []=some (sl 3 vel d22.1,d22.2.1,hh):=by
  rw [qh (show pr.fns 46=some c46 from rfl) (by simp)]
  simp only [go_sem,seval,c46,wh23]
  exact ⟨_,rfl⟩
 obtain ⟨hh,this⟩:=this
 exact z6 rfl this (by first | rfl | simp only [go_sem,seval]) (by first | rfl | simp only [go_sem,seval]) (by first | rfl | simp only [go_sem,seval])
noncomputable def f198 (a0:Option (List GEl)):Option ((Option (List GEl)) × Bool):=
 cond a0.isNone
  (some (none,false))
  (qe (apO (some []) (a0.getD [])) fun v2=>
  some (v2,true))
theorem jcg {a0:Option (List GEl)} {r} (h:f198 a0=some r):qc pr (X pr) 198 [sl 3 vel a0]=some (sl 3 vel r.1,r.2):=by
 unfold f198 at h
 rcases qb h with ⟨h1,h⟩ | ⟨h1,h⟩
 ·have hr:(none,false)=r:=Option.some.inj h
  subst hr
  have this:∃ hh,jl pr (X pr) 198 [sl 3 vel a0] []=some (.list true 0 [],false,hh):=by
   rw [qh (show pr.fns 198=some c198 from rfl) (by simp)]
   simp only [go_sem,seval,c198,h1]
   exact ⟨_,rfl⟩
  obtain ⟨hh,this⟩:=this
  exact z6 rfl this (by first | rfl | simp only [go_sem,seval]) (by first | rfl | simp only [go_sem,seval]) (by first | rfl | simp only [go_sem,seval])
 ·obtain ⟨v2,h3,h⟩:=qa h
  have hr:(v2,true)=r:=Option.some.inj h
  subst hr
  have this:∃ hh,jl pr (X pr) 198 [sl 3 vel a0] []=some (sl 3 vel v2,true,hh):=by
   rw [qh (show pr.fns 198=some c198 from rfl) (by simp)]
   simp only [go_sem,seval,c198,h1,qi6 h3]
   exact ⟨_,rfl⟩
  obtain ⟨hh,this⟩:=this
  exact z6 rfl this (by first | rfl | simp only [go_sem,seval]) (by first | rfl | simp only [go_sem,seval]) (by first | rfl | simp only [go_sem,seval])
end Go.Z
