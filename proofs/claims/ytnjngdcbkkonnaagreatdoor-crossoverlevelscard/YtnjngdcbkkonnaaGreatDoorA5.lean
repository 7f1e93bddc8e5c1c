/-
  Chapter 4: levels and sums: functions that mirror the runs, and the runs (printed by walk.py).
-/
import Derived.Test.YtnjngdcbkkonnaaGreatDoorA4
set_option linter.unusedVariables false
set_option linter.unusedSimpArgs false
set_option maxRecDepth 100000
set_option maxHeartbeats 4000000
namespace Go.Z
open Go Go.Abs
noncomputable def f132 (a0:GMat) (a1:GRat) (c0_0:Int) (c0_1:Int):Option ((GRat × Int)):=
 cond (decide (a0.m0=0) && decide (a0.m1=0))
  (some (⟨0,0⟩,17))
  (obind (f175 a1) fun v2=>
  obind (f175 (⟨a0.m0,a0.m1⟩)) fun v4=>
  obind (f174 v2 v4) fun v6=>
  some (v6,0))
theorem W132 {a0:GMat} {a1:GRat} {c0_0:Int} {c0_1:Int} {r} (h:f132 a0 a1 c0_0 c0_1=some r):callFn pr (X pr) 132 [.agg [.int .i64 a0.m0,.int .i64 a0.m1,.int .i64 a0.m2,.int .i64 a0.m3,.int .i64 a0.m4,.int .i64 a0.m5,.int .i64 a0.m6,.int .i64 a0.m7],.agg [.int .i64 a1.num,.int .i64 a1.den]] [.cells [(.int .i64 c0_0,false),(.int .i64 c0_1,false)]]=some (.tup [.agg [.int .i64 r.1.num,.int .i64 r.1.den],.int .i64 r.2],false,[.cells [(.int .i64 c0_0,false),(.int .i64 c0_1,false)],.cells [(.int .i64 r.1.num,false),(.int .i64 r.1.den,false)]]):=by
 unfold f132 at h
 rcases cond_split h with ⟨h1,h⟩ | ⟨h1,h⟩
 ·have hr:(⟨0,0⟩,17)=r:=Option.some.inj h
  subst hr
  rw [callFn_at (show pr.fns 132=some c132 from rfl) (by simp)]
  simp only [go_sem,seval,c132,h1] <;> rfl
 ·obtain ⟨v2,h3,h⟩:=obind_some h
  have wh3:callIso pr (X pr) 175 [.agg [.int .i64 a1.num,.int .i64 a1.den]]=some (.int .i64 v2,false):=W175 h3
  obtain ⟨v4,h5,h⟩:=obind_some h
  have wh5:callIso pr (X pr) 175 [.agg [.int .i64 a0.m0,.int .i64 a0.m1]]=some (.int .i64 v4,false):=W175 h5
  obtain ⟨v6,h7,h⟩:=obind_some h
  have hr:(v6,0)=r:=Option.some.inj h
  subst hr
  rw [callFn_at (show pr.fns 132=some c132 from rfl) (by simp)]
  simp only [go_sem,seval,c132,h1,wh3,wh5,W174 h7] <;> rfl
noncomputable def f131 (a0:Option (List GEl)) (a1:Int):Option (GRat × Int):=
 obind (f158 a0) fun v1=>
 obind (f172 a1) fun v3=>
 obind (f171 (some [v1,v3])) fun v5=>
 cond (decide (v5=0))
  (obind (f173 a0 a1) fun v8=>
  obind (f132 v8.1 v8.2 0 0) fun v10=>
  some (v10.1,v10.2))
  (some (⟨0,0⟩,v5))
theorem W131 {a0:Option (List GEl)} {a1:Int} {r} (h:f131 a0 a1=some r):callIso pr (X pr) 131 [sl 3 vel a0,.int .i64 a1,.fn (.func 132) [] []]=some (.tup [.agg [.int .i64 r.1.num,.int .i64 r.1.den],.int .i64 r.2],false):=by
 unfold f131 at h
 obtain ⟨v1,h2,h⟩:=obind_some h
 obtain ⟨v3,h4,h⟩:=obind_some h
 obtain ⟨v5,h6,h⟩:=obind_some h
 have wh6:callIso pr (X pr) 171 [.list false 1 [.int .i64 v1,.int .i64 v3]]=some (.int .i64 v5,false):=W171 h6
 rcases cond_split h with ⟨h7,h⟩ | ⟨h7,h⟩
 ·obtain ⟨v8,h9,h⟩:=obind_some h
  obtain ⟨v10,h11,h⟩:=obind_some h
  have wh11:callFn pr (X pr) 132 [.agg [.int .i64 v8.1.m0,.int .i64 v8.1.m1,.int .i64 v8.1.m2,.int .i64 v8.1.m3,.int .i64 v8.1.m4,.int .i64 v8.1.m5,.int .i64 v8.1.m6,.int .i64 v8.1.m7],.agg [.int .i64 v8.2.num,.int .i64 v8.2.den]] [.cells [(.int .i64 0,false),(.int .i64 0,false)]]=some (.tup [.agg [.int .i64 v10.1.num,.int .i64 v10.1.den],.int .i64 v10.2],false,[.cells [(.int .i64 0,false),(.int .i64 0,false)],.cells [(.int .i64 v10.1.num,false),(.int .i64 v10.1.den,false)]]):=W132 h11
  have hr:(v10.1,v10.2)=r:=Option.some.inj h
  subst hr
  refine iso_F rfl ?_ (fun _=>by first | rfl | simp only [go_sem,seval]) (by first | rfl | simp only [go_sem,seval])
  rw [callFn_at (show pr.fns 131=some c131 from rfl) (by simp)]
  simp only [go_sem,seval,c131,W158 h2,W172 h4,wh6,h7,W173 h9,wh11]
  exact ⟨_,rfl⟩
 ·have hr:(⟨0,0⟩,v5)=r:=Option.some.inj h
  subst hr
  refine iso_F rfl ?_ (fun _=>by first | rfl | simp only [go_sem,seval]) (by first | rfl | simp only [go_sem,seval])
  rw [callFn_at (show pr.fns 131=some c131 from rfl) (by simp)]
  simp only [go_sem,seval,c131,W158 h2,W172 h4,wh6,h7]
  exact ⟨_,rfl⟩
noncomputable def f57 (a0:Option (List GEl)) (a1:Int):Option (GRat × Int):=
 obind (f131 a0 a1) fun v1=>
 some (v1.1,v1.2)
theorem W57 {a0:Option (List GEl)} {a1:Int} {r} (h:f57 a0 a1=some r):callIso pr (X pr) 57 [sl 3 vel a0,.int .i64 a1]=some (.tup [.agg [.int .i64 r.1.num,.int .i64 r.1.den],.int .i64 r.2],false):=by
 unfold f57 at h
 obtain ⟨v1,h2,h⟩:=obind_some h
 have wh2:callIso pr (X pr) 131 [sl 3 vel a0,.int .i64 a1,.fn (.func 132) [] []]=some (.tup [.agg [.int .i64 v1.1.num,.int .i64 v1.1.den],.int .i64 v1.2],false):=W131 h2
 have hr:(v1.1,v1.2)=r:=Option.some.inj h
 subst hr
 refine iso_F rfl ?_ (fun _=>by first | rfl | simp only [go_sem,seval]) (by first | rfl | simp only [go_sem,seval])
 rw [callFn_at (show pr.fns 57=some c57 from rfl) (by simp)]
 simp only [go_sem,seval,c57,wh2]
 exact ⟨_,rfl⟩
noncomputable def f165 (a0:Int) (a1:Int):Option (Int × Int):=
 obind (shrO .u64 a0 32) fun v1=>
 obind (shrO .u64 a1 32) fun v3=>
 obind (shrO .u64 (wrapF .u64 ((bitF .and .u64 a0 4294967295) * (bitF .and .u64 a1 4294967295))) 32) fun v5=>
 obind (shrO .u64 (wrapF .u64 ((wrapF .u64 (v1 * (bitF .and .u64 a1 4294967295))) + v5)) 32) fun v7=>
 obind (shrO .u64 (wrapF .u64 ((bitF .and .u64 (wrapF .u64 ((wrapF .u64 (v1 * (bitF .and .u64 a1 4294967295))) + v5)) 4294967295) + (wrapF .u64 ((bitF .and .u64 a0 4294967295) * v3)))) 32) fun v9=>
 some (wrapF .u64 ((wrapF .u64 ((wrapF .u64 (v1 * v3)) + v7)) + v9),wrapF .u64 (a0 * a1))
theorem W165 {a0:Int} {a1:Int} {r} (h:f165 a0 a1=some r):callIso pr (X pr) 165 [.int .u64 a0,.int .u64 a1]=some (.tup [.int .u64 r.1,.int .u64 r.2],false):=by
 unfold f165 at h
 obtain ⟨v1,h2,h⟩:=obind_some h
 obtain ⟨v3,h4,h⟩:=obind_some h
 obtain ⟨v5,h6,h⟩:=obind_some h
 obtain ⟨v7,h8,h⟩:=obind_some h
 obtain ⟨v9,h10,h⟩:=obind_some h
 have hr:(wrapF .u64 ((wrapF .u64 ((wrapF .u64 (v1 * v3)) + v7)) + v9),wrapF .u64 (a0 * a1))=r:=Option.some.inj h
 subst hr
 refine iso_F rfl ?_ (fun _=>by first | rfl | simp only [go_sem,seval]) (by first | rfl | simp only [go_sem,seval])
 rw [callFn_at (show pr.fns 165=some c165 from rfl) (by simp)]
 simp only [go_sem,seval,c165,b_shr_O h2,b_shr_O h4,b_shr_O h6,b_shr_O h8,b_shr_O h10]
 exact ⟨_,rfl⟩
noncomputable def f127 (a0:GRat) (a1:GRat):Option Bool:=
 obind (f165 (wrapF .u64 a0.num) (wrapF .u64 a1.den)) fun v1=>
 obind (f165 (wrapF .u64 a1.num) (wrapF .u64 a0.den)) fun v3=>
 cond (decide (v3.1 < v1.1))
  (some true)
  (cond (decide (v1.1=v3.1))
   (some (decide (v3.2 < v1.2)))
   (some false))
theorem W127 {a0:GRat} {a1:GRat} {r} (h:f127 a0 a1=some r):callIso pr (X pr) 127 [.agg [.int .i64 a0.num,.int .i64 a0.den],.agg [.int .i64 a1.num,.int .i64 a1.den]]=some (.bool r,false):=by
 unfold f127 at h
 obtain ⟨v1,h2,h⟩:=obind_some h
 have wh2:callIso pr (X pr) 165 [.int .u64 (wrapF .u64 a0.num),.int .u64 (wrapF .u64 a1.den)]=some (.tup [.int .u64 v1.1,.int .u64 v1.2],false):=W165 h2
 obtain ⟨v3,h4,h⟩:=obind_some h
 have wh4:callIso pr (X pr) 165 [.int .u64 (wrapF .u64 a1.num),.int .u64 (wrapF .u64 a0.den)]=some (.tup [.int .u64 v3.1,.int .u64 v3.2],false):=W165 h4
 rcases cond_split h with ⟨h5,h⟩ | ⟨h5,h⟩
 ·have hr:true=r:=Option.some.inj h
  subst hr
  refine iso_F rfl ?_ (fun _=>by first | rfl | simp only [go_sem,seval]) (by first | rfl | simp only [go_sem,seval])
  rw [callFn_at (show pr.fns 127=some c127 from rfl) (by simp)]
  simp only [go_sem,seval,c127,wh2,wh4,h5]
  exact ⟨_,rfl⟩
 ·rcases cond_split h with ⟨h6,h⟩ | ⟨h6,h⟩
  ·have hr:decide (v3.2 < v1.2)=r:=Option.some.inj h
   subst hr
   refine iso_F rfl ?_ (fun _=>by first | rfl | simp only [go_sem,seval]) (by first | rfl | simp only [go_sem,seval])
   rw [callFn_at (show pr.fns 127=some c127 from rfl) (by simp)]
   simp only [go_sem,seval,c127,wh2,wh4,h5,h6]
   exact ⟨_,rfl⟩
  ·have hr:false=r:=Option.some.inj h
   subst hr
   refine iso_F rfl ?_ (fun _=>by first | rfl | simp only [go_sem,seval]) (by first | rfl | simp only [go_sem,seval])
   rw [callFn_at (show pr.fns 127=some c127 from rfl) (by simp)]
   simp only [go_sem,seval,c127,wh2,wh4,h5,h6]
   exact ⟨_,rfl⟩
noncomputable def s129_0 (a0:Option (List GEl)) (a1:Int) (s0:Int × Int × Int × Int × Int × Int × Int × Int × Int):Option ((Int × Int × Int × Int × Int × Int × Int × Int × Int) ⊕ ((Int × Int × Int × Int × Int × Int × Int × Int × Int))):=
 cond (decide (s0.1 < ((a0.getD []).length:Int)))
  (obind (idxO (a0.getD []) s0.1) fun v24=>
  obind (f167 v24 a1) fun v26=>
  obind (f170 v24.kind v26) fun v28=>
  obind (f169 (⟨s0.2.1,s0.2.2.1,s0.2.2.2.1,s0.2.2.2.2.1,s0.2.2.2.2.2.1,s0.2.2.2.2.2.2.1,s0.2.2.2.2.2.2.2.1,s0.2.2.2.2.2.2.2.2⟩) v28) fun v30=>
  some (.inl (wrapF .i64 (s0.1 + 1),v30.m0,v30.m1,v30.m2,v30.m3,v30.m4,v30.m5,v30.m6,v30.m7)))
  (some (.inr (s0.1,s0.2.1,s0.2.2.1,s0.2.2.2.1,s0.2.2.2.2.1,s0.2.2.2.2.2.1,s0.2.2.2.2.2.2.1,s0.2.2.2.2.2.2.2.1,s0.2.2.2.2.2.2.2.2)))
def St129_0 (a0:Option (List GEl)) (a1:Int) (s0:Int × Int × Int × Int × Int × Int × Int × Int × Int):ASt:=⟨[(0,sl 3 vel a0,false),(1,.int .i64 a1,false),(4,.ptr 0 0,false),(5,.ptr 1 0,false),(6,.int .i64 s0.1,false)],[.cells [(.int .i64 0,false),(.int .i64 0,false),(.int .i64 0,false),(.int .i64 0,false),(.int .i64 0,false),(.int .i64 0,false),(.int .i64 0,false),(.int .i64 0,false)],.cells [(.int .i64 s0.2.1,false),(.int .i64 s0.2.2.1,false),(.int .i64 s0.2.2.2.1,false),(.int .i64 s0.2.2.2.2.1,false),(.int .i64 s0.2.2.2.2.2.1,false),(.int .i64 s0.2.2.2.2.2.2.1,false),(.int .i64 s0.2.2.2.2.2.2.2.1,false),(.int .i64 s0.2.2.2.2.2.2.2.2,false)]]⟩
def Ex129_0 (a0:Option (List GEl)) (a1:Int) (d:(Int × Int × Int × Int × Int × Int × Int × Int × Int)):AExit × ASt:=(.exit 0,⟨[(0,sl 3 vel a0,false),(1,.int .i64 a1,false),(4,.ptr 0 0,false),(5,.ptr 1 0,false),(6,.int .i64 d.1,false),(15,.bool false,false)],[.cells [(.int .i64 0,false),(.int .i64 0,false),(.int .i64 0,false),(.int .i64 0,false),(.int .i64 0,false),(.int .i64 0,false),(.int .i64 0,false),(.int .i64 0,false)],.cells [(.int .i64 d.2.1,false),(.int .i64 d.2.2.1,false),(.int .i64 d.2.2.2.1,false),(.int .i64 d.2.2.2.2.1,false),(.int .i64 d.2.2.2.2.2.1,false),(.int .i64 d.2.2.2.2.2.2.1,false),(.int .i64 d.2.2.2.2.2.2.2.1,false),(.int .i64 d.2.2.2.2.2.2.2.2,false)]]⟩)
theorem b129_0 (a0:Option (List GEl)) (a1:Int) (s0:Int × Int × Int × Int × Int × Int × Int × Int × Int) (r) (h:s129_0 a0 a1 s0=some r):stepO pr c129_0 (St129_0 a0 a1) (Ex129_0 a0 a1) s0 r:=by
 unfold s129_0 at h
 rcases cond_split h with ⟨h23,h⟩ | ⟨h23,h⟩
 ·obtain ⟨v24,h25,h⟩:=obind_some h
  obtain ⟨v26,h27,h⟩:=obind_some h
  have wh27:callIso pr (X pr) 167 [.agg [.str v24.kind,.int .i64 v24.a,.int .i64 v24.b],.int .i64 a1]=some (.agg [.int .i64 v26.num,.int .i64 v26.den],false):=W167 h27
  obtain ⟨v28,h29,h⟩:=obind_some h
  have wh29:callIso pr (X pr) 170 [.str v24.kind,.agg [.int .i64 v26.num,.int .i64 v26.den]]=some (.agg [.int .i64 v28.m0,.int .i64 v28.m1,.int .i64 v28.m2,.int .i64 v28.m3,.int .i64 v28.m4,.int .i64 v28.m5,.int .i64 v28.m6,.int .i64 v28.m7],false):=W170 h29
  obtain ⟨v30,h31,h⟩:=obind_some h
  have wh31:callIso pr (X pr) 169 [.agg [.int .i64 s0.2.1,.int .i64 s0.2.2.1,.int .i64 s0.2.2.2.1,.int .i64 s0.2.2.2.2.1,.int .i64 s0.2.2.2.2.2.1,.int .i64 s0.2.2.2.2.2.2.1,.int .i64 s0.2.2.2.2.2.2.2.1,.int .i64 s0.2.2.2.2.2.2.2.2],.agg [.int .i64 v28.m0,.int .i64 v28.m1,.int .i64 v28.m2,.int .i64 v28.m3,.int .i64 v28.m4,.int .i64 v28.m5,.int .i64 v28.m6,.int .i64 v28.m7]]=some (.agg [.int .i64 v30.m0,.int .i64 v30.m1,.int .i64 v30.m2,.int .i64 v30.m3,.int .i64 v30.m4,.int .i64 v30.m5,.int .i64 v30.m6,.int .i64 v30.m7],false):=W169 h31
  cases h
  exact stepO_in (st':=⟨[(0,sl 3 vel a0,false),(1,.int .i64 a1,false),(4,.ptr 0 0,false),(5,.ptr 1 0,false),(6,.int .i64 (wrapF .i64 (s0.1 + 1)),false)],[.cells [(.int .i64 0,false),(.int .i64 0,false),(.int .i64 0,false),(.int .i64 0,false),(.int .i64 0,false),(.int .i64 0,false),(.int .i64 0,false),(.int .i64 0,false)],.cells [(.int .i64 v30.m0,false),(.int .i64 v30.m1,false),(.int .i64 v30.m2,false),(.int .i64 v30.m3,false),(.int .i64 v30.m4,false),(.int .i64 v30.m5,false),(.int .i64 v30.m6,false),(.int .i64 v30.m7,false)]]⟩) (by simp only [go_sem,seval,c129_0,St129_0,h23,idxR_O h25,wh27,wh29,wh31] <;> rfl) (gc_same (Nat.le_refl _))
 ·cases h
  exact stepO_out (by simp only [go_sem,seval,c129_0,St129_0,h23,Ex129_0] <;> rfl)
theorem l129_0 (a0:Option (List GEl)) (a1:Int) {s0:Int × Int × Int × Int × Int × Int × Int × Int × Int} {d} (h:itO (s129_0 a0 a1) s0=some d):X pr (.loop c129_0) (St129_0 a0 a1 s0)=some (Ex129_0 a0 a1 d):=X_itO (b129_0 a0 a1) (fun d hh=>by cases hh) h
noncomputable def f129 (a0:Option (List GEl)) (a1:Int):Option GMat:=
 obind (f166) fun v1=>
 obind (f168) fun v3=>
 obind (itO (s129_0 a0 a1) (0,v1.num,v1.den,v3.num,v3.den,v3.num,v3.den,v1.num,v1.den)) fun d32=>
 some (⟨d32.2.1,d32.2.2.1,d32.2.2.2.1,d32.2.2.2.2.1,d32.2.2.2.2.2.1,d32.2.2.2.2.2.2.1,d32.2.2.2.2.2.2.2.1,d32.2.2.2.2.2.2.2.2⟩)
theorem W129 {a0:Option (List GEl)} {a1:Int} {r} (h:f129 a0 a1=some r):callIso pr (X pr) 129 [sl 3 vel a0,.int .i64 a1]=some (.agg [.int .i64 r.m0,.int .i64 r.m1,.int .i64 r.m2,.int .i64 r.m3,.int .i64 r.m4,.int .i64 r.m5,.int .i64 r.m6,.int .i64 r.m7],false):=by
 unfold f129 at h
 obtain ⟨v1,h2,h⟩:=obind_some h
 obtain ⟨v3,h4,h⟩:=obind_some h
 obtain ⟨d32,h33,h⟩:=obind_some h
 have wh33:X pr (.loop c129_0) ⟨[(0,sl 3 vel a0,false),(1,.int .i64 a1,false),(4,.ptr 0 0,false),(5,.ptr 1 0,false),(6,.int .i64 0,false)],[.cells [(.int .i64 0,false),(.int .i64 0,false),(.int .i64 0,false),(.int .i64 0,false),(.int .i64 0,false),(.int .i64 0,false),(.int .i64 0,false),(.int .i64 0,false)],.cells [(.int .i64 v1.num,false),(.int .i64 v1.den,false),(.int .i64 v3.num,false),(.int .i64 v3.den,false),(.int .i64 v3.num,false),(.int .i64 v3.den,false),(.int .i64 v1.num,false),(.int .i64 v1.den,false)]]⟩=some (.exit 0,⟨[(0,sl 3 vel a0,false),(1,.int .i64 a1,false),(4,.ptr 0 0,false),(5,.ptr 1 0,false),(6,.int .i64 d32.1,false),(15,.bool false,false)],[.cells [(.int .i64 0,false),(.int .i64 0,false),(.int .i64 0,false),(.int .i64 0,false),(.int .i64 0,false),(.int .i64 0,false),(.int .i64 0,false),(.int .i64 0,false)],.cells [(.int .i64 d32.2.1,false),(.int .i64 d32.2.2.1,false),(.int .i64 d32.2.2.2.1,false),(.int .i64 d32.2.2.2.2.1,false),(.int .i64 d32.2.2.2.2.2.1,false),(.int .i64 d32.2.2.2.2.2.2.1,false),(.int .i64 d32.2.2.2.2.2.2.2.1,false),(.int .i64 d32.2.2.2.2.2.2.2.2,false)]]⟩):=l129_0 a0 a1 h33
 have hr:⟨d32.2.1,d32.2.2.1,d32.2.2.2.1,d32.2.2.2.2.1,d32.2.2.2.2.2.1,d32.2.2.2.2.2.2.1,d32.2.2.2.2.2.2.2.1,d32.2.2.2.2.2.2.2.2⟩=r:=Option.some.inj h
 subst hr
 refine iso_F rfl ?_ (fun _=>by first | rfl | simp only [go_sem,seval]) (by first | rfl | simp only [go_sem,seval])
 rw [callFn_at (show pr.fns 129=some c129 from rfl) (by simp)]
 simp only [go_sem,seval,c129,W166 h2,W168 h4,wh33]
 exact ⟨_,rfl⟩
noncomputable def s128_0 (a0:Option (List GEl)) (a1:Int) (s0:Int × Int × Int):Option ((Int × Int × Int) ⊕ ((Int × Int × Int))):=
 cond (decide (s0.1 < ((a0.getD []).length:Int)))
  (obind (idxO (a0.getD []) s0.1) fun v24=>
  obind (f55 v24.kind) fun v26=>
  cond v26
   (obind (f167 v24 a1) fun v29=>
   obind (f63 (⟨s0.2.1,s0.2.2⟩) v29) fun v31=>
   some (.inl (wrapF .i64 (s0.1 + 1),v31.num,v31.den)))
   (some (.inl (wrapF .i64 (s0.1 + 1),s0.2.1,s0.2.2))))
  (some (.inr (s0.1,s0.2.1,s0.2.2)))
def St128_0 (a0:Option (List GEl)) (a1:Int) (s0:Int × Int × Int):ASt:=⟨[(0,sl 3 vel a0,false),(1,.int .i64 a1,false),(4,.ptr 0 0,false),(5,.ptr 1 0,false),(6,.int .i64 s0.1,false)],[.cells [(.int .i64 0,false),(.int .i64 0,false)],.cells [(.int .i64 s0.2.1,false),(.int .i64 s0.2.2,false)]]⟩
def Ex128_0 (a0:Option (List GEl)) (a1:Int) (d:(Int × Int × Int)):AExit × ASt:=(.exit 0,⟨[(0,sl 3 vel a0,false),(1,.int .i64 a1,false),(4,.ptr 0 0,false),(5,.ptr 1 0,false),(6,.int .i64 d.1,false),(11,.bool false,false)],[.cells [(.int .i64 0,false),(.int .i64 0,false)],.cells [(.int .i64 d.2.1,false),(.int .i64 d.2.2,false)]]⟩)
theorem b128_0 (a0:Option (List GEl)) (a1:Int) (s0:Int × Int × Int) (r) (h:s128_0 a0 a1 s0=some r):stepO pr c128_0 (St128_0 a0 a1) (Ex128_0 a0 a1) s0 r:=by
 unfold s128_0 at h
 rcases cond_split h with ⟨h23,h⟩ | ⟨h23,h⟩
 ·obtain ⟨v24,h25,h⟩:=obind_some h
  obtain ⟨v26,h27,h⟩:=obind_some h
  have wh27:callIso pr (X pr) 55 [.str v24.kind]=some (.bool v26,false):=W55 h27
  rcases cond_split h with ⟨h28,h⟩ | ⟨h28,h⟩
  ·obtain ⟨v29,h30,h⟩:=obind_some h
   have wh30:callIso pr (X pr) 167 [.agg [.str v24.kind,.int .i64 v24.a,.int .i64 v24.b],.int .i64 a1]=some (.agg [.int .i64 v29.num,.int .i64 v29.den],false):=W167 h30
   obtain ⟨v31,h32,h⟩:=obind_some h
   have wh32:callIso pr (X pr) 63 [.agg [.int .i64 s0.2.1,.int .i64 s0.2.2],.agg [.int .i64 v29.num,.int .i64 v29.den]]=some (.agg [.int .i64 v31.num,.int .i64 v31.den],false):=W63 h32
   cases h
   exact stepO_in (st':=⟨[(0,sl 3 vel a0,false),(1,.int .i64 a1,false),(4,.ptr 0 0,false),(5,.ptr 1 0,false),(6,.int .i64 (wrapF .i64 (s0.1 + 1)),false)],[.cells [(.int .i64 0,false),(.int .i64 0,false)],.cells [(.int .i64 v31.num,false),(.int .i64 v31.den,false)]]⟩) (by simp only [go_sem,seval,c128_0,St128_0,h23,idxR_O h25,wh27,h28,wh30,wh32] <;> rfl) (gc_same (Nat.le_refl _))
  ·cases h
   exact stepO_in (st':=⟨[(0,sl 3 vel a0,false),(1,.int .i64 a1,false),(4,.ptr 0 0,false),(5,.ptr 1 0,false),(6,.int .i64 (wrapF .i64 (s0.1 + 1)),false)],[.cells [(.int .i64 0,false),(.int .i64 0,false)],.cells [(.int .i64 s0.2.1,false),(.int .i64 s0.2.2,false)]]⟩) (by simp only [go_sem,seval,c128_0,St128_0,h23,idxR_O h25,wh27,h28] <;> rfl) (gc_same (Nat.le_refl _))
 ·cases h
  exact stepO_out (by simp only [go_sem,seval,c128_0,St128_0,h23,Ex128_0] <;> rfl)
theorem l128_0 (a0:Option (List GEl)) (a1:Int) {s0:Int × Int × Int} {d} (h:itO (s128_0 a0 a1) s0=some d):X pr (.loop c128_0) (St128_0 a0 a1 s0)=some (Ex128_0 a0 a1 d):=X_itO (b128_0 a0 a1) (fun d hh=>by cases hh) h
noncomputable def f128 (a0:Option (List GEl)) (a1:Int):Option GRat:=
 obind (f166) fun v1=>
 obind (itO (s128_0 a0 a1) (0,v1.num,v1.den)) fun d33=>
 some (⟨d33.2.1,d33.2.2⟩)
theorem W128 {a0:Option (List GEl)} {a1:Int} {r} (h:f128 a0 a1=some r):callIso pr (X pr) 128 [sl 3 vel a0,.int .i64 a1]=some (.agg [.int .i64 r.num,.int .i64 r.den],false):=by
 unfold f128 at h
 obtain ⟨v1,h2,h⟩:=obind_some h
 obtain ⟨d33,h34,h⟩:=obind_some h
 have wh34:X pr (.loop c128_0) ⟨[(0,sl 3 vel a0,false),(1,.int .i64 a1,false),(4,.ptr 0 0,false),(5,.ptr 1 0,false),(6,.int .i64 0,false)],[.cells [(.int .i64 0,false),(.int .i64 0,false)],.cells [(.int .i64 v1.num,false),(.int .i64 v1.den,false)]]⟩=some (.exit 0,⟨[(0,sl 3 vel a0,false),(1,.int .i64 a1,false),(4,.ptr 0 0,false),(5,.ptr 1 0,false),(6,.int .i64 d33.1,false),(11,.bool false,false)],[.cells [(.int .i64 0,false),(.int .i64 0,false)],.cells [(.int .i64 d33.2.1,false),(.int .i64 d33.2.2,false)]]⟩):=l128_0 a0 a1 h34
 have hr:⟨d33.2.1,d33.2.2⟩=r:=Option.some.inj h
 subst hr
 refine iso_F rfl ?_ (fun _=>by first | rfl | simp only [go_sem,seval]) (by first | rfl | simp only [go_sem,seval])
 rw [callFn_at (show pr.fns 128=some c128 from rfl) (by simp)]
 simp only [go_sem,seval,c128,W166 h2,wh34]
 exact ⟨_,rfl⟩
noncomputable def F58 (rec:GRat→GRat→Option Bool) (a0:GRat) (a1:GRat):Option Bool:=
 obind (quoO .i64 a0.num a0.den) fun v1=>
 obind (quoO .i64 a1.num a1.den) fun v3=>
 cond (decide (v1=v3))
  (obind (remO a0.num a0.den) fun v6=>
  obind (remO a1.num a1.den) fun v8=>
  cond (decide (v6=0))
   (some (!decide (v8=0)))
   (cond (decide (v8=0))
    (some false)
    (obind (rec (⟨a1.den,v8⟩) (⟨a0.den,v6⟩)) fun v12=>
    some v12)))
  (some (decide (v1 < v3)))
theorem WF58 {rec:GRat→GRat→Option Bool} (hrec:∀ {a0:GRat} {a1:GRat} {r},rec a0 a1=some r→callIso pr (X pr) 58 [.agg [.int .i64 a0.num,.int .i64 a0.den],.agg [.int .i64 a1.num,.int .i64 a1.den]]=some (.bool r,false)) {a0:GRat} {a1:GRat} {r} (h:F58 rec a0 a1=some r):callIso pr (X pr) 58 [.agg [.int .i64 a0.num,.int .i64 a0.den],.agg [.int .i64 a1.num,.int .i64 a1.den]]=some (.bool r,false):=by
 unfold F58 at h
 obtain ⟨v1,h2,h⟩:=obind_some h
 obtain ⟨v3,h4,h⟩:=obind_some h
 rcases cond_split h with ⟨h5,h⟩ | ⟨h5,h⟩
 ·obtain ⟨v6,h7,h⟩:=obind_some h
  obtain ⟨v8,h9,h⟩:=obind_some h
  rcases cond_split h with ⟨h10,h⟩ | ⟨h10,h⟩
  ·have hr:(!decide (v8=0))=r:=Option.some.inj h
   subst hr
   refine iso_F rfl ?_ (fun _=>by first | rfl | simp only [go_sem,seval]) (by first | rfl | simp only [go_sem,seval])
   rw [callFn_at (show pr.fns 58=some c58 from rfl) (by simp)]
   simp only [go_sem,seval,c58,b_quo_O h2,b_quo_O h4,h5,b_rem_O h7,b_rem_O h9,h10]
   exact ⟨_,rfl⟩
  ·rcases cond_split h with ⟨h11,h⟩ | ⟨h11,h⟩
   ·have hr:false=r:=Option.some.inj h
    subst hr
    refine iso_F rfl ?_ (fun _=>by first | rfl | simp only [go_sem,seval]) (by first | rfl | simp only [go_sem,seval])
    rw [callFn_at (show pr.fns 58=some c58 from rfl) (by simp)]
    simp only [go_sem,seval,c58,b_quo_O h2,b_quo_O h4,h5,b_rem_O h7,b_rem_O h9,h10,h11]
    exact ⟨_,rfl⟩
   ·obtain ⟨v12,h13,h⟩:=obind_some h
    have wh13:callIso pr (X pr) 58 [.agg [.int .i64 a1.den,.int .i64 v8],.agg [.int .i64 a0.den,.int .i64 v6]]=some (.bool v12,false):=hrec h13
    have hr:v12=r:=Option.some.inj h
    subst hr
    refine iso_F rfl ?_ (fun _=>by first | rfl | simp only [go_sem,seval]) (by first | rfl | simp only [go_sem,seval])
    rw [callFn_at (show pr.fns 58=some c58 from rfl) (by simp)]
    simp only [go_sem,seval,c58,b_quo_O h2,b_quo_O h4,h5,b_rem_O h7,b_rem_O h9,h10,h11,wh13]
    exact ⟨_,rfl⟩
 ·have hr:decide (v1 < v3)=r:=Option.some.inj h
  subst hr
  refine iso_F rfl ?_ (fun _=>by first | rfl | simp only [go_sem,seval]) (by first | rfl | simp only [go_sem,seval])
  rw [callFn_at (show pr.fns 58=some c58 from rfl) (by simp)]
  simp only [go_sem,seval,c58,b_quo_O h2,b_quo_O h4,h5]
  exact ⟨_,rfl⟩
noncomputable def f58:Nat→GRat→GRat→Option Bool
 | 0=>fun _ _=>none
 | n + 1=>F58 (f58 n)
theorem W58:∀ (n:Nat) {a0:GRat} {a1:GRat} {r} (h:f58 n a0 a1=some r),callIso pr (X pr) 58 [.agg [.int .i64 a0.num,.int .i64 a0.den],.agg [.int .i64 a1.num,.int .i64 a1.den]]=some (.bool r,false)
 | 0,_,_,_,h=>by cases h
 | n + 1,_,_,_,h=>WF58 (W58 n) h
noncomputable def f199 (a0:GRat) (a1:GRat):Option (GQuad × Int):=
 obind (f168) fun v1=>
 cond (decide (a1.num=v1.num) && decide (a1.den=v1.den))
  (some (⟨0,0,0,0⟩,17))
  (some (⟨a0.num,a0.den,a1.num,a1.den⟩,0))
theorem W199 {a0:GRat} {a1:GRat} {r} (h:f199 a0 a1=some r):callIso pr (X pr) 199 [.agg [.int .i64 a0.num,.int .i64 a0.den],.agg [.int .i64 a1.num,.int .i64 a1.den]]=some (.tup [.agg [.int .i64 r.1.a,.int .i64 r.1.b,.int .i64 r.1.c,.int .i64 r.1.d],.int .i64 r.2],false):=by
 unfold f199 at h
 obtain ⟨v1,h2,h⟩:=obind_some h
 rcases cond_split h with ⟨h3,h⟩ | ⟨h3,h⟩
 ·have hr:(⟨0,0,0,0⟩,17)=r:=Option.some.inj h
  subst hr
  refine iso_F rfl ?_ (fun _=>by first | rfl | simp only [go_sem,seval]) (by first | rfl | simp only [go_sem,seval])
  rw [callFn_at (show pr.fns 199=some c199 from rfl) (by simp)]
  simp only [go_sem,seval,c199,W168 h2,h3]
  exact ⟨_,rfl⟩
 ·have hr:(⟨a0.num,a0.den,a1.num,a1.den⟩,0)=r:=Option.some.inj h
  subst hr
  refine iso_F rfl ?_ (fun _=>by first | rfl | simp only [go_sem,seval]) (by first | rfl | simp only [go_sem,seval])
  rw [callFn_at (show pr.fns 199=some c199 from rfl) (by simp)]
  simp only [go_sem,seval,c199,W168 h2,h3]
  exact ⟨_,rfl⟩
noncomputable def f160 (a0:Option (List GEl)) (a1:Int):Option (GQuad × Int):=
 obind (f128 a0 a1) fun v1=>
 obind (f129 a0 a1) fun v3=>
 obind (f199 v1 (⟨v3.m0,v3.m1⟩)) fun v5=>
 some (v5.1,v5.2)
theorem W160 {a0:Option (List GEl)} {a1:Int} {r} (h:f160 a0 a1=some r):callIso pr (X pr) 160 [sl 3 vel a0,.int .i64 a1]=some (.tup [.agg [.int .i64 r.1.a,.int .i64 r.1.b,.int .i64 r.1.c,.int .i64 r.1.d],.int .i64 r.2],false):=by
 unfold f160 at h
 obtain ⟨v1,h2,h⟩:=obind_some h
 obtain ⟨v3,h4,h⟩:=obind_some h
 obtain ⟨v5,h6,h⟩:=obind_some h
 have wh6:callIso pr (X pr) 199 [.agg [.int .i64 v1.num,.int .i64 v1.den],.agg [.int .i64 v3.m0,.int .i64 v3.m1]]=some (.tup [.agg [.int .i64 v5.1.a,.int .i64 v5.1.b,.int .i64 v5.1.c,.int .i64 v5.1.d],.int .i64 v5.2],false):=W199 h6
 have hr:(v5.1,v5.2)=r:=Option.some.inj h
 subst hr
 refine iso_F rfl ?_ (fun _=>by first | rfl | simp only [go_sem,seval]) (by first | rfl | simp only [go_sem,seval])
 rw [callFn_at (show pr.fns 160=some c160 from rfl) (by simp)]
 simp only [go_sem,seval,c160,W128 h2,W129 h4,wh6]
 exact ⟨_,rfl⟩
noncomputable def f113 (a0:Option (List GEl)) (a1:Int):Option (GRat × Int):=
 obind (f160 a0 a1) fun v1=>
 cond (decide (v1.2=0))
  (obind (f130 (⟨v1.1.a,v1.1.b⟩)) fun v4=>
  obind (f130 (⟨v1.1.c,v1.1.d⟩)) fun v6=>
  obind (f66 v4 v6) fun v8=>
  some (v8,0))
  (some (⟨0,0⟩,v1.2))
theorem W113 {a0:Option (List GEl)} {a1:Int} {r} (h:f113 a0 a1=some r):callIso pr (X pr) 113 [sl 3 vel a0,.int .i64 a1]=some (.tup [.agg [.int .i64 r.1.num,.int .i64 r.1.den],.int .i64 r.2],false):=by
 unfold f113 at h
 obtain ⟨v1,h2,h⟩:=obind_some h
 rcases cond_split h with ⟨h3,h⟩ | ⟨h3,h⟩
 ·obtain ⟨v4,h5,h⟩:=obind_some h
  have wh5:callIso pr (X pr) 130 [.agg [.int .i64 v1.1.a,.int .i64 v1.1.b]]=some (.int .i64 v4,false):=W130 h5
  obtain ⟨v6,h7,h⟩:=obind_some h
  have wh7:callIso pr (X pr) 130 [.agg [.int .i64 v1.1.c,.int .i64 v1.1.d]]=some (.int .i64 v6,false):=W130 h7
  obtain ⟨v8,h9,h⟩:=obind_some h
  have hr:(v8,0)=r:=Option.some.inj h
  subst hr
  refine iso_F rfl ?_ (fun _=>by first | rfl | simp only [go_sem,seval]) (by first | rfl | simp only [go_sem,seval])
  rw [callFn_at (show pr.fns 113=some c113 from rfl) (by simp)]
  simp only [go_sem,seval,c113,W160 h2,h3,wh5,wh7,W66 h9]
  exact ⟨_,rfl⟩
 ·have hr:(⟨0,0⟩,v1.2)=r:=Option.some.inj h
  subst hr
  refine iso_F rfl ?_ (fun _=>by first | rfl | simp only [go_sem,seval]) (by first | rfl | simp only [go_sem,seval])
  rw [callFn_at (show pr.fns 113=some c113 from rfl) (by simp)]
  simp only [go_sem,seval,c113,W160 h2,h3]
  exact ⟨_,rfl⟩
noncomputable def f34 (a0:Int):Option Int:=
 obind (f40 a0 1 8) fun v1=>
 some v1
theorem W34 {a0:Int} {r} (h:f34 a0=some r):callIso pr (X pr) 34 [.int .i64 a0]=some (.int .i64 r,false):=by
 unfold f34 at h
 obtain ⟨v1,h2,h⟩:=obind_some h
 have hr:v1=r:=Option.some.inj h
 subst hr
 refine iso_F rfl ?_ (fun _=>by first | rfl | simp only [go_sem,seval]) (by first | rfl | simp only [go_sem,seval])
 rw [callFn_at (show pr.fns 34=some c34 from rfl) (by simp)]
 simp only [go_sem,seval,c34,W40 h2]
 exact ⟨_,rfl⟩
noncomputable def f32 (a0:Option (List Int)):Option Int:=
 obind (f100 a0) fun v1=>
 some v1
theorem W32 {a0:Option (List Int)} {r} (h:f32 a0=some r):callIso pr (X pr) 32 [sl 1 vint a0]=some (.int .i64 r,false):=by
 unfold f32 at h
 obtain ⟨v1,h2,h⟩:=obind_some h
 have hr:v1=r:=Option.some.inj h
 subst hr
 refine iso_F rfl ?_ (fun _=>by first | rfl | simp only [go_sem,seval]) (by first | rfl | simp only [go_sem,seval])
 rw [callFn_at (show pr.fns 32=some c32 from rfl) (by simp)]
 simp only [go_sem,seval,c32,W100 h2]
 exact ⟨_,rfl⟩
end Go.Z
/-
 Chapter 4: copies of ladders: functions that mirror the runs,and the runs (printed by walk.py).
-/
namespace Go.Z
open Go Go.Abs
noncomputable def f198 (a0:Option (List GEl)):Option ((Option (List GEl)) × Bool):=
 cond a0.isNone
  (some (none,false))
  (obind (apO (some []) (a0.getD [])) fun v2=>
  some (v2,true))
theorem W198 {a0:Option (List GEl)} {r} (h:f198 a0=some r):callIso pr (X pr) 198 [sl 3 vel a0]=some (sl 3 vel r.1,r.2):=by
 unfold f198 at h
 rcases cond_split h with ⟨h1,h⟩ | ⟨h1,h⟩
 ·have hr:(none,false)=r:=Option.some.inj h
  subst hr
  have this:∃ hh,callFn pr (X pr) 198 [sl 3 vel a0] []=some (.list true 0 [],false,hh):=by
   rw [callFn_at (show pr.fns 198=some c198 from rfl) (by simp)]
   simp only [go_sem,seval,c198,h1]
   exact ⟨_,rfl⟩
  obtain ⟨hh,this⟩:=this
  exact callIso_of_dyn rfl this (by first | rfl | simp only [go_sem,seval]) (by first | rfl | simp only [go_sem,seval]) (by first | rfl | simp only [go_sem,seval])
 ·obtain ⟨v2,h3,h⟩:=obind_some h
  have hr:(v2,true)=r:=Option.some.inj h
  subst hr
  have this:∃ hh,callFn pr (X pr) 198 [sl 3 vel a0] []=some (sl 3 vel v2,true,hh):=by
   rw [callFn_at (show pr.fns 198=some c198 from rfl) (by simp)]
   simp only [go_sem,seval,c198,h1,app_lit_O h3]
   exact ⟨_,rfl⟩
  obtain ⟨hh,this⟩:=this
  exact callIso_of_dyn rfl this (by first | rfl | simp only [go_sem,seval]) (by first | rfl | simp only [go_sem,seval]) (by first | rfl | simp only [go_sem,seval])
end Go.Z
