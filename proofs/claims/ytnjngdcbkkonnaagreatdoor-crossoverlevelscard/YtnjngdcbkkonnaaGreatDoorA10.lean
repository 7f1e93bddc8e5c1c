/-
  Chapter 4: the law CrossoverLevels: functions that mirror the runs, and the runs (printed by walk.py).
-/
import Derived.Test.YtnjngdcbkkonnaaGreatDoorLZ
import Derived.Test.YtnjngdcbkkonnaaGreatDoorA9
set_option linter.unusedVariables false
set_option linter.unusedSimpArgs false
set_option maxRecDepth 100000
set_option maxHeartbeats 4000000
namespace Go.Z
open Go Go.Abs
theorem Q24 {a0:Option (List GPart)} {r} (h:f24 a0=some r):callIso prZ (X prZ) 24 [sl 8 vpart a0]=some (sl 8 vpart r.1,r.2):=atZ rfl rfl (atE rfl rfl (W24 h) (by first | rfl | simp only [go_sem,seval])) (by first | rfl | simp only [go_sem,seval])
theorem Q25 {a0:Option (List GPart)} {r} (h:f25 a0=some r):callIso prZ (X prZ) 25 [sl 8 vpart a0]=some (.int .i64 r,false):=atZ rfl rfl (atE rfl rfl (W25 h) (by first | rfl | simp only [go_sem,seval])) (by first | rfl | simp only [go_sem,seval])
theorem Q28 {a0:GCase} {r} (h:f28 a0=some r):callIso prZ (X prZ) 28 [.agg [sl 8 vpart a0.parts,sl 1 vint a0.choice,sl 5 vband a0.bands]]=some (.bool r,false):=atZ rfl rfl (atE rfl rfl (W28 h) (by first | rfl | simp only [go_sem,seval])) (by first | rfl | simp only [go_sem,seval])
theorem Q29 {a0:Option (List GPart)} {a1:Option (List Int)} {a2:Int} {r} (h:f29 a0 a1 a2=some r):callIso prZ (X prZ) 29 [sl 8 vpart a0,sl 1 vint a1,.int .i64 a2]=some (.tup [.agg [.int .i64 r.1.a,.int .i64 r.1.b,.int .i64 r.1.c,.int .i64 r.1.d],.int .i64 r.2],false):=atZ rfl rfl (atE rfl rfl (W29 h) (by first | rfl | simp only [go_sem,seval])) (by first | rfl | simp only [go_sem,seval])
theorem Q30 {a0:Option (List Int)} {r} (h:f30 a0=some r):callIso prZ (X prZ) 30 [sl 1 vint a0]=some (sl 1 vint r,true):=atZ rfl rfl (atE rfl rfl (W30 h) (by first | rfl | simp only [go_sem,seval])) (by first | rfl | simp only [go_sem,seval])
theorem Q31 {a0:Option (List GPart)} {a1:Option (List Int)} {a2:Int} {r} (h:f31 a0 a1 a2=some r):callIso prZ (X prZ) 31 [sl 8 vpart a0,sl 1 vint a1,.int .i64 a2]=some (.tup [.agg [.int .i64 r.1.num,.int .i64 r.1.den],.int .i64 r.2],false):=atZ rfl rfl (atE rfl rfl (W31 h) (by first | rfl | simp only [go_sem,seval])) (by first | rfl | simp only [go_sem,seval])
theorem Q32 {a0:Option (List Int)} {r} (h:f32 a0=some r):callIso prZ (X prZ) 32 [sl 1 vint a0]=some (.int .i64 r,false):=atZ rfl rfl (atE rfl rfl (W32 h) (by first | rfl | simp only [go_sem,seval])) (by first | rfl | simp only [go_sem,seval])
theorem Q33 {a0:Option (List GPart)} {a1:Option (List Int)} {r} (h:f33 a0 a1=some r):callIso prZ (X prZ) 33 [sl 8 vpart a0,sl 1 vint a1]=some (.int .i64 r,false):=atZ rfl rfl (atE rfl rfl (W33 h) (by first | rfl | simp only [go_sem,seval])) (by first | rfl | simp only [go_sem,seval])
theorem Q34 {a0:Int} {r} (h:f34 a0=some r):callIso prZ (X prZ) 34 [.int .i64 a0]=some (.int .i64 r,false):=atZ rfl rfl (atE rfl rfl (W34 h) (by first | rfl | simp only [go_sem,seval])) (by first | rfl | simp only [go_sem,seval])
theorem Q35 {a0:Option (List GPart)} {a1:Option (List Int)} {a2:Int} {a3:Bool} {r} (h:f35 a0 a1 a2 a3=some r):callIso prZ (X prZ) 35 [sl 8 vpart a0,sl 1 vint a1,.int .i64 a2,.bool a3]=some (.tup [.agg [.int .i64 r.1.a,.int .i64 r.1.b,.int .i64 r.1.c,.int .i64 r.1.d],.int .i64 r.2],false):=atZ rfl rfl (atE rfl rfl (W35 h) (by first | rfl | simp only [go_sem,seval])) (by first | rfl | simp only [go_sem,seval])
noncomputable def f4 (a0:GCase) (a1:Int):Option Bool:=
 obind (E16) fun v1=>
 cond v1
  (obind (f28 a0) fun v4=>
  cond v4
   (obind (f24 a0.parts) fun v7=>
   obind (f30 a0.choice) fun v9=>
   obind (f29 v7.1 v9 a1) fun v11=>
   obind (f31 v7.1 v9 a1) fun v13=>
   obind (f25 a0.parts) fun v15=>
   obind (f33 a0.parts a0.choice) fun v17=>
   obind (f34 a1) fun v19=>
   obind (f32 (some [v15,v17,v19])) fun v21=>
   cond (decide (v21=0))
    (obind (f35 a0.parts a0.choice a1 false) fun v24=>
    obind (f35 a0.parts a0.choice a1 true) fun v26=>
    cond (decide (v11.1.a=v24.1.a) && decide (v11.1.b=v24.1.b) && decide (v11.1.c=v24.1.c) && decide (v11.1.d=v24.1.d))
     (cond (decide (v11.2=v24.2))
      (cond (decide (v13.1.num=v26.1.a) && decide (v13.1.den=v26.1.b))
       (some (decide (v13.2=v26.2)))
       (some false))
      (some false))
     (some false))
    (cond (decide (v11.1.a=0) && decide (v11.1.b=0) && decide (v11.1.c=0) && decide (v11.1.d=0))
     (cond (decide (v11.2=v21))
      (cond (decide (v13.1.num=0) && decide (v13.1.den=0))
       (some (decide (v13.2=v21)))
       (some false))
      (some false))
     (some false)))
   (some v1))
  (some v1)
theorem W4 {a0:GCase} {a1:Int} {r} (h:f4 a0 a1=some r):callIso prZ (X prZ) 4 [.agg [sl 8 vpart a0.parts,sl 1 vint a0.choice,sl 5 vband a0.bands],.int .i64 a1]=some (.bool r,false):=by
 unfold f4 at h
 obtain ⟨v1,h2,h⟩:=obind_some h
 rcases cond_split h with ⟨h3,h⟩ | ⟨h3,h⟩
 ·obtain ⟨v4,h5,h⟩:=obind_some h
  have wh5:callIso prZ (X prZ) 28 [.agg [sl 8 vpart a0.parts,sl 1 vint a0.choice,sl 5 vband a0.bands]]=some (.bool v4,false):=Q28 h5
  rcases cond_split h with ⟨h6,h⟩ | ⟨h6,h⟩
  ·obtain ⟨v7,h8,h⟩:=obind_some h
   have wh8:callIso prZ (X prZ) 24 [sl 8 vpart a0.parts]=some (sl 8 vpart v7.1,v7.2):=Q24 h8
   obtain ⟨v9,h10,h⟩:=obind_some h
   have wh10:callIso prZ (X prZ) 30 [sl 1 vint a0.choice]=some (sl 1 vint v9,true):=Q30 h10
   obtain ⟨v11,h12,h⟩:=obind_some h
   have wh12:callIso prZ (X prZ) 29 [sl 8 vpart v7.1,sl 1 vint v9,.int .i64 a1]=some (.tup [.agg [.int .i64 v11.1.a,.int .i64 v11.1.b,.int .i64 v11.1.c,.int .i64 v11.1.d],.int .i64 v11.2],false):=Q29 h12
   obtain ⟨v13,h14,h⟩:=obind_some h
   have wh14:callIso prZ (X prZ) 31 [sl 8 vpart v7.1,sl 1 vint v9,.int .i64 a1]=some (.tup [.agg [.int .i64 v13.1.num,.int .i64 v13.1.den],.int .i64 v13.2],false):=Q31 h14
   obtain ⟨v15,h16,h⟩:=obind_some h
   have wh16:callIso prZ (X prZ) 25 [sl 8 vpart a0.parts]=some (.int .i64 v15,false):=Q25 h16
   obtain ⟨v17,h18,h⟩:=obind_some h
   have wh18:callIso prZ (X prZ) 33 [sl 8 vpart a0.parts,sl 1 vint a0.choice]=some (.int .i64 v17,false):=Q33 h18
   obtain ⟨v19,h20,h⟩:=obind_some h
   obtain ⟨v21,h22,h⟩:=obind_some h
   have wh22:callIso prZ (X prZ) 32 [.list false 1 [.int .i64 v15,.int .i64 v17,.int .i64 v19]]=some (.int .i64 v21,false):=Q32 h22
   rcases cond_split h with ⟨h23,h⟩ | ⟨h23,h⟩
   ·obtain ⟨v24,h25,h⟩:=obind_some h
    have wh25:callIso prZ (X prZ) 35 [sl 8 vpart a0.parts,sl 1 vint a0.choice,.int .i64 a1,.bool false]=some (.tup [.agg [.int .i64 v24.1.a,.int .i64 v24.1.b,.int .i64 v24.1.c,.int .i64 v24.1.d],.int .i64 v24.2],false):=Q35 h25
    obtain ⟨v26,h27,h⟩:=obind_some h
    have wh27:callIso prZ (X prZ) 35 [sl 8 vpart a0.parts,sl 1 vint a0.choice,.int .i64 a1,.bool true]=some (.tup [.agg [.int .i64 v26.1.a,.int .i64 v26.1.b,.int .i64 v26.1.c,.int .i64 v26.1.d],.int .i64 v26.2],false):=Q35 h27
    rcases cond_split h with ⟨h28,h⟩ | ⟨h28,h⟩
    ·rcases cond_split h with ⟨h29,h⟩ | ⟨h29,h⟩
     ·rcases cond_split h with ⟨h30,h⟩ | ⟨h30,h⟩
      ·have hr:decide (v13.2=v26.2)=r:=Option.some.inj h
       subst hr
       refine iso_F rfl ?_ (fun _=>by first | rfl | simp only [go_sem,seval]) (by first | rfl | simp only [go_sem,seval])
       rw [callFn_at (show prZ.fns 4=some c4 from rfl) (by simp)]
       simp only [go_sem,seval,c4,Q16 h2,h3,wh5,h6,wh8,wh10,wh12,wh14,wh16,wh18,Q34 h20,wh22,h23,wh25,wh27,h28,h29,h30]
       exact ⟨_,rfl⟩
      ·have hr:false=r:=Option.some.inj h
       subst hr
       refine iso_F rfl ?_ (fun _=>by first | rfl | simp only [go_sem,seval]) (by first | rfl | simp only [go_sem,seval])
       rw [callFn_at (show prZ.fns 4=some c4 from rfl) (by simp)]
       simp only [go_sem,seval,c4,Q16 h2,h3,wh5,h6,wh8,wh10,wh12,wh14,wh16,wh18,Q34 h20,wh22,h23,wh25,wh27,h28,h29,h30]
       exact ⟨_,rfl⟩
     ·have hr:false=r:=Option.some.inj h
      subst hr
      refine iso_F rfl ?_ (fun _=>by first | rfl | simp only [go_sem,seval]) (by first | rfl | simp only [go_sem,seval])
      rw [callFn_at (show prZ.fns 4=some c4 from rfl) (by simp)]
      simp only [go_sem,seval,c4,Q16 h2,h3,wh5,h6,wh8,wh10,wh12,wh14,wh16,wh18,Q34 h20,wh22,h23,wh25,wh27,h28,h29]
      exact ⟨_,rfl⟩
    ·have hr:false=r:=Option.some.inj h
     subst hr
     refine iso_F rfl ?_ (fun _=>by first | rfl | simp only [go_sem,seval]) (by first | rfl | simp only [go_sem,seval])
     rw [callFn_at (show prZ.fns 4=some c4 from rfl) (by simp)]
     simp only [go_sem,seval,c4,Q16 h2,h3,wh5,h6,wh8,wh10,wh12,wh14,wh16,wh18,Q34 h20,wh22,h23,wh25,wh27,h28]
     exact ⟨_,rfl⟩
   ·rcases cond_split h with ⟨h31,h⟩ | ⟨h31,h⟩
    ·rcases cond_split h with ⟨h32,h⟩ | ⟨h32,h⟩
     ·rcases cond_split h with ⟨h33,h⟩ | ⟨h33,h⟩
      ·have hr:decide (v13.2=v21)=r:=Option.some.inj h
       subst hr
       refine iso_F rfl ?_ (fun _=>by first | rfl | simp only [go_sem,seval]) (by first | rfl | simp only [go_sem,seval])
       rw [callFn_at (show prZ.fns 4=some c4 from rfl) (by simp)]
       simp only [go_sem,seval,c4,Q16 h2,h3,wh5,h6,wh8,wh10,wh12,wh14,wh16,wh18,Q34 h20,wh22,h23,h31,h32,h33]
       exact ⟨_,rfl⟩
      ·have hr:false=r:=Option.some.inj h
       subst hr
       refine iso_F rfl ?_ (fun _=>by first | rfl | simp only [go_sem,seval]) (by first | rfl | simp only [go_sem,seval])
       rw [callFn_at (show prZ.fns 4=some c4 from rfl) (by simp)]
       simp only [go_sem,seval,c4,Q16 h2,h3,wh5,h6,wh8,wh10,wh12,wh14,wh16,wh18,Q34 h20,wh22,h23,h31,h32,h33]
       exact ⟨_,rfl⟩
     ·have hr:false=r:=Option.some.inj h
      subst hr
      refine iso_F rfl ?_ (fun _=>by first | rfl | simp only [go_sem,seval]) (by first | rfl | simp only [go_sem,seval])
      rw [callFn_at (show prZ.fns 4=some c4 from rfl) (by simp)]
      simp only [go_sem,seval,c4,Q16 h2,h3,wh5,h6,wh8,wh10,wh12,wh14,wh16,wh18,Q34 h20,wh22,h23,h31,h32]
      exact ⟨_,rfl⟩
    ·have hr:false=r:=Option.some.inj h
     subst hr
     refine iso_F rfl ?_ (fun _=>by first | rfl | simp only [go_sem,seval]) (by first | rfl | simp only [go_sem,seval])
     rw [callFn_at (show prZ.fns 4=some c4 from rfl) (by simp)]
     simp only [go_sem,seval,c4,Q16 h2,h3,wh5,h6,wh8,wh10,wh12,wh14,wh16,wh18,Q34 h20,wh22,h23,h31]
     exact ⟨_,rfl⟩
  ·have hr:v1=r:=Option.some.inj h
   subst hr
   refine iso_F rfl ?_ (fun _=>by first | rfl | simp only [go_sem,seval]) (by first | rfl | simp only [go_sem,seval])
   rw [callFn_at (show prZ.fns 4=some c4 from rfl) (by simp)]
   simp only [go_sem,seval,c4,Q16 h2,h3,wh5,h6]
   exact ⟨_,rfl⟩
 ·have hr:v1=r:=Option.some.inj h
  subst hr
  refine iso_F rfl ?_ (fun _=>by first | rfl | simp only [go_sem,seval]) (by first | rfl | simp only [go_sem,seval])
  rw [callFn_at (show prZ.fns 4=some c4 from rfl) (by simp)]
  simp only [go_sem,seval,c4,Q16 h2,h3]
  exact ⟨_,rfl⟩
end Go.Z
