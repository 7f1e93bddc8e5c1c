/-
  Chapter 4: the law CrossoverSums: functions that mirror the runs, and the runs (printed by walk.py).
-/
import Derived.Test.YtnjngdcbkkonnaaGreatDoorLZ
import Derived.Test.YtnjngdcbkkonnaaGreatDoorA5
set_option linter.unusedVariables false
set_option linter.unusedSimpArgs false
set_option maxRecDepth 100000
set_option maxHeartbeats 4000000
namespace Go.Z
open Go Go.Abs
theorem Q32 {a0:Option (List Int)} {r} (h:f32 a0=some r):callIso prZ (X prZ) 32 [sl 1 vint a0]=some (.int .i64 r,false):=atZ rfl rfl (atE rfl rfl (W32 h) (by first | rfl | simp only [go_sem,seval])) (by first | rfl | simp only [go_sem,seval])
theorem Q34 {a0:Int} {r} (h:f34 a0=some r):callIso prZ (X prZ) 34 [.int .i64 a0]=some (.int .i64 r,false):=atZ rfl rfl (atE rfl rfl (W34 h) (by first | rfl | simp only [go_sem,seval])) (by first | rfl | simp only [go_sem,seval])
theorem Q43 {a0:Int} {a1:Int} {a2:Int} {a3:Int} {r} (h:f43 a0 a1 a2 a3=some r):callIso prZ (X prZ) 43 [.int .i64 a0,.int .i64 a1,.int .i64 a2,.int .i64 a3]=some (.bool r,false):=atZ rfl rfl (atE rfl rfl (W43 h) (by first | rfl | simp only [go_sem,seval])) (by first | rfl | simp only [go_sem,seval])
theorem Q44 {a0:Option (List GEl)} {r} (h:f44 a0=some r):callIso prZ (X prZ) 44 [sl 3 vel a0]=some (.bool r,false):=atZ rfl rfl (atE rfl rfl (W44 h) (by first | rfl | simp only [go_sem,seval])) (by first | rfl | simp only [go_sem,seval])
theorem Q45 {a0:Option (List GEl)} {a1:Option (List GEl)} {a2:Int} {a3:Bool} {r} (h:f45 a0 a1 a2 a3=some r):callIso prZ (X prZ) 45 [sl 3 vel a0,sl 3 vel a1,.int .i64 a2,.bool a3]=some (.tup [.agg [.int .i64 r.1.a,.int .i64 r.1.b,.int .i64 r.1.c,.int .i64 r.1.d],.int .i64 r.2],false):=atZ rfl rfl (atE rfl rfl (W45 h) (by first | rfl | simp only [go_sem,seval])) (by first | rfl | simp only [go_sem,seval])
theorem Q46 {a0:Option (List GEl)} {r} (h:f46 a0=some r):callIso prZ (X prZ) 46 [sl 3 vel a0]=some (sl 3 vel r.1,r.2):=atZ rfl rfl (atE rfl rfl (W46 h) (by first | rfl | simp only [go_sem,seval])) (by first | rfl | simp only [go_sem,seval])
theorem Q47 {a0:Option (List GEl)} {a1:Option (List GEl)} {a2:Int} {a3:Bool} {r} (h:f47 a0 a1 a2 a3=some r):callIso prZ (X prZ) 47 [sl 3 vel a0,sl 3 vel a1,.int .i64 a2,.bool a3]=some (.tup [.agg [.int .i64 r.1.num,.int .i64 r.1.den],.int .i64 r.2],false):=atZ rfl rfl (atE rfl rfl (W47 h) (by first | rfl | simp only [go_sem,seval])) (by first | rfl | simp only [go_sem,seval])
theorem Q48 {a0:Option (List GEl)} {a1:Option (List GEl)} {a2:Int} {a3:Int} {r} (h:f48 a0 a1 a2 a3=some r):callIso prZ (X prZ) 48 [sl 3 vel a0,sl 3 vel a1,.int .i64 a2,.int .i64 a3]=some (.tup [.int .i64 r.1,.int .i64 r.2],false):=atZ rfl rfl (atE rfl rfl (W48 h) (by first | rfl | simp only [go_sem,seval])) (by first | rfl | simp only [go_sem,seval])
theorem Q49 {a0:Option (List GEl)} {r} (h:f49 a0=some r):callIso prZ (X prZ) 49 [sl 3 vel a0]=some (.int .i64 r,false):=atZ rfl rfl (atE rfl rfl (W49 h) (by first | rfl | simp only [go_sem,seval])) (by first | rfl | simp only [go_sem,seval])
theorem Q50 {a0:Int} {a1:Int} {r} (h:f50 a0 a1=some r):callIso prZ (X prZ) 50 [.int .i64 a0,.int .i64 a1]=some (.int .i64 r,false):=atZ rfl rfl (atE rfl rfl (W50 h) (by first | rfl | simp only [go_sem,seval])) (by first | rfl | simp only [go_sem,seval])
theorem Q51 {a0:Option (List GEl)} {a1:Option (List GEl)} {a2:Int} {a3:Bool} {r} (h:f51 a0 a1 a2 a3=some r):callIso prZ (X prZ) 51 [sl 3 vel a0,sl 3 vel a1,.int .i64 a2,.bool a3]=some (.tup [.agg [.int .i64 r.1.a,.int .i64 r.1.b,.int .i64 r.1.c,.int .i64 r.1.d],.int .i64 r.2],false):=atZ rfl rfl (atE rfl rfl (W51 h) (by first | rfl | simp only [go_sem,seval])) (by first | rfl | simp only [go_sem,seval])
theorem Q52 {a0:GQuad} {r} (h:f52 a0=some r):callIso prZ (X prZ) 52 [.agg [.int .i64 a0.a,.int .i64 a0.b,.int .i64 a0.c,.int .i64 a0.d]]=some (.agg [.int .i64 r.num,.int .i64 r.den],false):=atZ rfl rfl (atE rfl rfl (W52 h) (by first | rfl | simp only [go_sem,seval])) (by first | rfl | simp only [go_sem,seval])
theorem Q53 {a0:Option (List GEl)} {a1:Option (List GEl)} {a2:Int} {a3:Int} {r} (h:f53 a0 a1 a2 a3=some r):callIso prZ (X prZ) 53 [sl 3 vel a0,sl 3 vel a1,.int .i64 a2,.int .i64 a3]=some (.tup [.int .i64 r.1,.int .i64 r.2],false):=atZ rfl rfl (atE rfl rfl (W53 h) (by first | rfl | simp only [go_sem,seval])) (by first | rfl | simp only [go_sem,seval])
noncomputable def f6 (a0:GBran) (a1:Bool):Option Bool:=
 obind (E16) fun v1=>
 cond v1
  (obind (f44 a0.x) fun v4=>
  cond v4
   (obind (f44 a0.y) fun v7=>
   cond v7
    (obind (f46 a0.x) fun v10=>
    obind (f46 a0.y) fun v12=>
    obind (f45 v10.1 v12.1 a0.lo a1) fun v14=>
    obind (f47 v10.1 v12.1 a0.lo a1) fun v16=>
    obind (f48 v10.1 v12.1 a0.lo a0.hi) fun v18=>
    obind (f49 a0.x) fun v20=>
    obind (f49 a0.y) fun v22=>
    obind (f32 (some [v20,v22])) fun v24=>
    obind (f34 a0.lo) fun v26=>
    obind (f32 (some [v24,v26])) fun v28=>
    obind (f50 a0.lo a0.hi) fun v30=>
    obind (f32 (some [v24,v30])) fun v32=>
    cond (decide (v28=0))
     (obind (f51 a0.x a0.y a0.lo a1) fun v35=>
     cond (decide (v35.2=0))
      (obind (f52 v35.1) fun v38=>
      cond (decide (v32=0))
       (obind (f53 a0.x a0.y a0.lo a0.hi) fun v41=>
       cond (decide (v14.1.a=v35.1.a) && decide (v14.1.b=v35.1.b) && decide (v14.1.c=v35.1.c) && decide (v14.1.d=v35.1.d))
        (cond (decide (v14.2=v35.2))
         (cond (decide (v16.1.num=v38.num) && decide (v16.1.den=v38.den))
          (cond (decide (v16.2=v35.2))
           (obind (f43 v18.1 v18.2 v41.2 v41.1) fun v47=>
           some v47)
           (some false))
          (some false))
         (some false))
        (some false))
       (cond (decide (v14.1.a=v35.1.a) && decide (v14.1.b=v35.1.b) && decide (v14.1.c=v35.1.c) && decide (v14.1.d=v35.1.d))
        (cond (decide (v14.2=v35.2))
         (cond (decide (v16.1.num=v38.num) && decide (v16.1.den=v38.den))
          (cond (decide (v16.2=v35.2))
           (obind (f43 v18.1 v18.2 v32 0) fun v53=>
           some v53)
           (some false))
          (some false))
         (some false))
        (some false)))
      (cond (decide (v32=0))
       (obind (f53 a0.x a0.y a0.lo a0.hi) fun v56=>
       cond (decide (v14.1.a=v35.1.a) && decide (v14.1.b=v35.1.b) && decide (v14.1.c=v35.1.c) && decide (v14.1.d=v35.1.d))
        (cond (decide (v14.2=v35.2))
         (cond (decide (v16.1.num=0) && decide (v16.1.den=0))
          (cond (decide (v16.2=v35.2))
           (obind (f43 v18.1 v18.2 v56.2 v56.1) fun v62=>
           some v62)
           (some false))
          (some false))
         (some false))
        (some false))
       (cond (decide (v14.1.a=v35.1.a) && decide (v14.1.b=v35.1.b) && decide (v14.1.c=v35.1.c) && decide (v14.1.d=v35.1.d))
        (cond (decide (v14.2=v35.2))
         (cond (decide (v16.1.num=0) && decide (v16.1.den=0))
          (cond (decide (v16.2=v35.2))
           (obind (f43 v18.1 v18.2 v32 0) fun v68=>
           some v68)
           (some false))
          (some false))
         (some false))
        (some false))))
     (cond (decide (v32=0))
      (obind (f53 a0.x a0.y a0.lo a0.hi) fun v71=>
      cond (decide (v14.1.a=0) && decide (v14.1.b=0) && decide (v14.1.c=0) && decide (v14.1.d=0))
       (cond (decide (v14.2=v28))
        (cond (decide (v16.1.num=0) && decide (v16.1.den=0))
         (cond (decide (v16.2=v28))
          (obind (f43 v18.1 v18.2 v71.2 v71.1) fun v77=>
          some v77)
          (some false))
         (some false))
        (some false))
       (some false))
      (cond (decide (v14.1.a=0) && decide (v14.1.b=0) && decide (v14.1.c=0) && decide (v14.1.d=0))
       (cond (decide (v14.2=v28))
        (cond (decide (v16.1.num=0) && decide (v16.1.den=0))
         (cond (decide (v16.2=v28))
          (obind (f43 v18.1 v18.2 v32 0) fun v83=>
          some v83)
          (some false))
         (some false))
        (some false))
       (some false))))
    (some v1))
   (some v1))
  (some v1)
theorem W6 {a0:GBran} {a1:Bool} {r} (h:f6 a0 a1=some r):callIso prZ (X prZ) 6 [.agg [sl 3 vel a0.x,sl 3 vel a0.y,.int .i64 a0.lo,.int .i64 a0.hi],.bool a1]=some (.bool r,false):=by
 unfold f6 at h
 obtain ⟨v1,h2,h⟩:=obind_some h
 have wh2:callIso prZ (X prZ) 16 []=some (.bool v1,false):=Q16 h2
 rcases cond_split h with ⟨h3,h⟩ | ⟨h3,h⟩
 ·obtain ⟨v4,h5,h⟩:=obind_some h
  have wh5:callIso prZ (X prZ) 44 [sl 3 vel a0.x]=some (.bool v4,false):=Q44 h5
  rcases cond_split h with ⟨h6,h⟩ | ⟨h6,h⟩
  ·obtain ⟨v7,h8,h⟩:=obind_some h
   have wh8:callIso prZ (X prZ) 44 [sl 3 vel a0.y]=some (.bool v7,false):=Q44 h8
   rcases cond_split h with ⟨h9,h⟩ | ⟨h9,h⟩
   ·obtain ⟨v10,h11,h⟩:=obind_some h
    have wh11:callIso prZ (X prZ) 46 [sl 3 vel a0.x]=some (sl 3 vel v10.1,v10.2):=Q46 h11
    obtain ⟨v12,h13,h⟩:=obind_some h
    have wh13:callIso prZ (X prZ) 46 [sl 3 vel a0.y]=some (sl 3 vel v12.1,v12.2):=Q46 h13
    obtain ⟨v14,h15,h⟩:=obind_some h
    have wh15:callIso prZ (X prZ) 45 [sl 3 vel v10.1,sl 3 vel v12.1,.int .i64 a0.lo,.bool a1]=some (.tup [.agg [.int .i64 v14.1.a,.int .i64 v14.1.b,.int .i64 v14.1.c,.int .i64 v14.1.d],.int .i64 v14.2],false):=Q45 h15
    obtain ⟨v16,h17,h⟩:=obind_some h
    have wh17:callIso prZ (X prZ) 47 [sl 3 vel v10.1,sl 3 vel v12.1,.int .i64 a0.lo,.bool a1]=some (.tup [.agg [.int .i64 v16.1.num,.int .i64 v16.1.den],.int .i64 v16.2],false):=Q47 h17
    obtain ⟨v18,h19,h⟩:=obind_some h
    have wh19:callIso prZ (X prZ) 48 [sl 3 vel v10.1,sl 3 vel v12.1,.int .i64 a0.lo,.int .i64 a0.hi]=some (.tup [.int .i64 v18.1,.int .i64 v18.2],false):=Q48 h19
    obtain ⟨v20,h21,h⟩:=obind_some h
    have wh21:callIso prZ (X prZ) 49 [sl 3 vel a0.x]=some (.int .i64 v20,false):=Q49 h21
    obtain ⟨v22,h23,h⟩:=obind_some h
    have wh23:callIso prZ (X prZ) 49 [sl 3 vel a0.y]=some (.int .i64 v22,false):=Q49 h23
    obtain ⟨v24,h25,h⟩:=obind_some h
    have wh25:callIso prZ (X prZ) 32 [.list false 1 [.int .i64 v20,.int .i64 v22]]=some (.int .i64 v24,false):=Q32 h25
    obtain ⟨v26,h27,h⟩:=obind_some h
    have wh27:callIso prZ (X prZ) 34 [.int .i64 a0.lo]=some (.int .i64 v26,false):=Q34 h27
    obtain ⟨v28,h29,h⟩:=obind_some h
    have wh29:callIso prZ (X prZ) 32 [.list false 1 [.int .i64 v24,.int .i64 v26]]=some (.int .i64 v28,false):=Q32 h29
    obtain ⟨v30,h31,h⟩:=obind_some h
    have wh31:callIso prZ (X prZ) 50 [.int .i64 a0.lo,.int .i64 a0.hi]=some (.int .i64 v30,false):=Q50 h31
    obtain ⟨v32,h33,h⟩:=obind_some h
    have wh33:callIso prZ (X prZ) 32 [.list false 1 [.int .i64 v24,.int .i64 v30]]=some (.int .i64 v32,false):=Q32 h33
    rcases cond_split h with ⟨h34,h⟩ | ⟨h34,h⟩
    ·obtain ⟨v35,h36,h⟩:=obind_some h
     have wh36:callIso prZ (X prZ) 51 [sl 3 vel a0.x,sl 3 vel a0.y,.int .i64 a0.lo,.bool a1]=some (.tup [.agg [.int .i64 v35.1.a,.int .i64 v35.1.b,.int .i64 v35.1.c,.int .i64 v35.1.d],.int .i64 v35.2],false):=Q51 h36
     rcases cond_split h with ⟨h37,h⟩ | ⟨h37,h⟩
     ·obtain ⟨v38,h39,h⟩:=obind_some h
      have wh39:callIso prZ (X prZ) 52 [.agg [.int .i64 v35.1.a,.int .i64 v35.1.b,.int .i64 v35.1.c,.int .i64 v35.1.d]]=some (.agg [.int .i64 v38.num,.int .i64 v38.den],false):=Q52 h39
      rcases cond_split h with ⟨h40,h⟩ | ⟨h40,h⟩
      ·obtain ⟨v41,h42,h⟩:=obind_some h
       have wh42:callIso prZ (X prZ) 53 [sl 3 vel a0.x,sl 3 vel a0.y,.int .i64 a0.lo,.int .i64 a0.hi]=some (.tup [.int .i64 v41.1,.int .i64 v41.2],false):=Q53 h42
       rcases cond_split h with ⟨h43,h⟩ | ⟨h43,h⟩
       ·rcases cond_split h with ⟨h44,h⟩ | ⟨h44,h⟩
        ·rcases cond_split h with ⟨h45,h⟩ | ⟨h45,h⟩
         ·rcases cond_split h with ⟨h46,h⟩ | ⟨h46,h⟩
          ·obtain ⟨v47,h48,h⟩:=obind_some h
           have wh48:callIso prZ (X prZ) 43 [.int .i64 v18.1,.int .i64 v18.2,.int .i64 v41.2,.int .i64 v41.1]=some (.bool v47,false):=Q43 h48
           have hr:v47=r:=Option.some.inj h
           subst hr
           have this:∃ hh,callFn prZ (X prZ) 6 [.agg [sl 3 vel a0.x,sl 3 vel a0.y,.int .i64 a0.lo,.int .i64 a0.hi],.bool a1] []=some (.bool v47,false,hh):=by
            rw [callFn_at (show prZ.fns 6=some c6 from rfl) (by simp)]
            simp only [go_sem,seval,c6,wh2,h3,wh5,h6,wh8,h9,wh11,wh13,wh15,wh17,wh19,wh21,wh23,wh25,wh27,wh29,wh31,wh33,h34,wh36,h37,wh39,h40,wh42,h43,h44,h45,h46,wh48]
            exact ⟨_,rfl⟩
           obtain ⟨hh,this⟩:=this
           exact callIso_of rfl this (by first | rfl | simp only [go_sem,seval]) (by first | rfl | simp only [go_sem,seval])
          ·have hr:false=r:=Option.some.inj h
           subst hr
           have this:∃ hh,callFn prZ (X prZ) 6 [.agg [sl 3 vel a0.x,sl 3 vel a0.y,.int .i64 a0.lo,.int .i64 a0.hi],.bool a1] []=some (.bool false,false,hh):=by
            rw [callFn_at (show prZ.fns 6=some c6 from rfl) (by simp)]
            simp only [go_sem,seval,c6,wh2,h3,wh5,h6,wh8,h9,wh11,wh13,wh15,wh17,wh19,wh21,wh23,wh25,wh27,wh29,wh31,wh33,h34,wh36,h37,wh39,h40,wh42,h43,h44,h45,h46]
            exact ⟨_,rfl⟩
           obtain ⟨hh,this⟩:=this
           exact callIso_of rfl this (by first | rfl | simp only [go_sem,seval]) (by first | rfl | simp only [go_sem,seval])
         ·have hr:false=r:=Option.some.inj h
          subst hr
          have this:∃ hh,callFn prZ (X prZ) 6 [.agg [sl 3 vel a0.x,sl 3 vel a0.y,.int .i64 a0.lo,.int .i64 a0.hi],.bool a1] []=some (.bool false,false,hh):=by
           rw [callFn_at (show prZ.fns 6=some c6 from rfl) (by simp)]
           simp only [go_sem,seval,c6,wh2,h3,wh5,h6,wh8,h9,wh11,wh13,wh15,wh17,wh19,wh21,wh23,wh25,wh27,wh29,wh31,wh33,h34,wh36,h37,wh39,h40,wh42,h43,h44,h45]
           exact ⟨_,rfl⟩
          obtain ⟨hh,this⟩:=this
          exact callIso_of rfl this (by first | rfl | simp only [go_sem,seval]) (by first | rfl | simp only [go_sem,seval])
        ·have hr:false=r:=Option.some.inj h
         subst hr
         have this:∃ hh,callFn prZ (X prZ) 6 [.agg [sl 3 vel a0.x,sl 3 vel a0.y,.int .i64 a0.lo,.int .i64 a0.hi],.bool a1] []=some (.bool false,false,hh):=by
          rw [callFn_at (show prZ.fns 6=some c6 from rfl) (by simp)]
          simp only [go_sem,seval,c6,wh2,h3,wh5,h6,wh8,h9,wh11,wh13,wh15,wh17,wh19,wh21,wh23,wh25,wh27,wh29,wh31,wh33,h34,wh36,h37,wh39,h40,wh42,h43,h44]
          exact ⟨_,rfl⟩
         obtain ⟨hh,this⟩:=this
         exact callIso_of rfl this (by first | rfl | simp only [go_sem,seval]) (by first | rfl | simp only [go_sem,seval])
       ·have hr:false=r:=Option.some.inj h
        subst hr
        have this:∃ hh,callFn prZ (X prZ) 6 [.agg [sl 3 vel a0.x,sl 3 vel a0.y,.int .i64 a0.lo,.int .i64 a0.hi],.bool a1] []=some (.bool false,false,hh):=by
         rw [callFn_at (show prZ.fns 6=some c6 from rfl) (by simp)]
         simp only [go_sem,seval,c6,wh2,h3,wh5,h6,wh8,h9,wh11,wh13,wh15,wh17,wh19,wh21,wh23,wh25,wh27,wh29,wh31,wh33,h34,wh36,h37,wh39,h40,wh42,h43]
         exact ⟨_,rfl⟩
        obtain ⟨hh,this⟩:=this
        exact callIso_of rfl this (by first | rfl | simp only [go_sem,seval]) (by first | rfl | simp only [go_sem,seval])
      ·rcases cond_split h with ⟨h49,h⟩ | ⟨h49,h⟩
       ·rcases cond_split h with ⟨h50,h⟩ | ⟨h50,h⟩
        ·rcases cond_split h with ⟨h51,h⟩ | ⟨h51,h⟩
         ·rcases cond_split h with ⟨h52,h⟩ | ⟨h52,h⟩
          ·obtain ⟨v53,h54,h⟩:=obind_some h
           have wh54:callIso prZ (X prZ) 43 [.int .i64 v18.1,.int .i64 v18.2,.int .i64 v32,.int .i64 0]=some (.bool v53,false):=Q43 h54
           have hr:v53=r:=Option.some.inj h
           subst hr
           have this:∃ hh,callFn prZ (X prZ) 6 [.agg [sl 3 vel a0.x,sl 3 vel a0.y,.int .i64 a0.lo,.int .i64 a0.hi],.bool a1] []=some (.bool v53,false,hh):=by
            rw [callFn_at (show prZ.fns 6=some c6 from rfl) (by simp)]
            simp only [go_sem,seval,c6,wh2,h3,wh5,h6,wh8,h9,wh11,wh13,wh15,wh17,wh19,wh21,wh23,wh25,wh27,wh29,wh31,wh33,h34,wh36,h37,wh39,h40,h49,h50,h51,h52,wh54]
            exact ⟨_,rfl⟩
           obtain ⟨hh,this⟩:=this
           exact callIso_of rfl this (by first | rfl | simp only [go_sem,seval]) (by first | rfl | simp only [go_sem,seval])
          ·have hr:false=r:=Option.some.inj h
           subst hr
           have this:∃ hh,callFn prZ (X prZ) 6 [.agg [sl 3 vel a0.x,sl 3 vel a0.y,.int .i64 a0.lo,.int .i64 a0.hi],.bool a1] []=some (.bool false,false,hh):=by
            rw [callFn_at (show prZ.fns 6=some c6 from rfl) (by simp)]
            simp only [go_sem,seval,c6,wh2,h3,wh5,h6,wh8,h9,wh11,wh13,wh15,wh17,wh19,wh21,wh23,wh25,wh27,wh29,wh31,wh33,h34,wh36,h37,wh39,h40,h49,h50,h51,h52]
            exact ⟨_,rfl⟩
           obtain ⟨hh,this⟩:=this
           exact callIso_of rfl this (by first | rfl | simp only [go_sem,seval]) (by first | rfl | simp only [go_sem,seval])
         ·have hr:false=r:=Option.some.inj h
          subst hr
          have this:∃ hh,callFn prZ (X prZ) 6 [.agg [sl 3 vel a0.x,sl 3 vel a0.y,.int .i64 a0.lo,.int .i64 a0.hi],.bool a1] []=some (.bool false,false,hh):=by
           rw [callFn_at (show prZ.fns 6=some c6 from rfl) (by simp)]
           simp only [go_sem,seval,c6,wh2,h3,wh5,h6,wh8,h9,wh11,wh13,wh15,wh17,wh19,wh21,wh23,wh25,wh27,wh29,wh31,wh33,h34,wh36,h37,wh39,h40,h49,h50,h51]
           exact ⟨_,rfl⟩
          obtain ⟨hh,this⟩:=this
          exact callIso_of rfl this (by first | rfl | simp only [go_sem,seval]) (by first | rfl | simp only [go_sem,seval])
        ·have hr:false=r:=Option.some.inj h
         subst hr
         have this:∃ hh,callFn prZ (X prZ) 6 [.agg [sl 3 vel a0.x,sl 3 vel a0.y,.int .i64 a0.lo,.int .i64 a0.hi],.bool a1] []=some (.bool false,false,hh):=by
          rw [callFn_at (show prZ.fns 6=some c6 from rfl) (by simp)]
          simp only [go_sem,seval,c6,wh2,h3,wh5,h6,wh8,h9,wh11,wh13,wh15,wh17,wh19,wh21,wh23,wh25,wh27,wh29,wh31,wh33,h34,wh36,h37,wh39,h40,h49,h50]
          exact ⟨_,rfl⟩
         obtain ⟨hh,this⟩:=this
         exact callIso_of rfl this (by first | rfl | simp only [go_sem,seval]) (by first | rfl | simp only [go_sem,seval])
       ·have hr:false=r:=Option.some.inj h
        subst hr
        have this:∃ hh,callFn prZ (X prZ) 6 [.agg [sl 3 vel a0.x,sl 3 vel a0.y,.int .i64 a0.lo,.int .i64 a0.hi],.bool a1] []=some (.bool false,false,hh):=by
         rw [callFn_at (show prZ.fns 6=some c6 from rfl) (by simp)]
         simp only [go_sem,seval,c6,wh2,h3,wh5,h6,wh8,h9,wh11,wh13,wh15,wh17,wh19,wh21,wh23,wh25,wh27,wh29,wh31,wh33,h34,wh36,h37,wh39,h40,h49]
         exact ⟨_,rfl⟩
        obtain ⟨hh,this⟩:=this
        exact callIso_of rfl this (by first | rfl | simp only [go_sem,seval]) (by first | rfl | simp only [go_sem,seval])
     ·rcases cond_split h with ⟨h55,h⟩ | ⟨h55,h⟩
      ·obtain ⟨v56,h57,h⟩:=obind_some h
       have wh57:callIso prZ (X prZ) 53 [sl 3 vel a0.x,sl 3 vel a0.y,.int .i64 a0.lo,.int .i64 a0.hi]=some (.tup [.int .i64 v56.1,.int .i64 v56.2],false):=Q53 h57
       rcases cond_split h with ⟨h58,h⟩ | ⟨h58,h⟩
       ·rcases cond_split h with ⟨h59,h⟩ | ⟨h59,h⟩
        ·rcases cond_split h with ⟨h60,h⟩ | ⟨h60,h⟩
         ·rcases cond_split h with ⟨h61,h⟩ | ⟨h61,h⟩
          ·obtain ⟨v62,h63,h⟩:=obind_some h
           have wh63:callIso prZ (X prZ) 43 [.int .i64 v18.1,.int .i64 v18.2,.int .i64 v56.2,.int .i64 v56.1]=some (.bool v62,false):=Q43 h63
           have hr:v62=r:=Option.some.inj h
           subst hr
           have this:∃ hh,callFn prZ (X prZ) 6 [.agg [sl 3 vel a0.x,sl 3 vel a0.y,.int .i64 a0.lo,.int .i64 a0.hi],.bool a1] []=some (.bool v62,false,hh):=by
            rw [callFn_at (show prZ.fns 6=some c6 from rfl) (by simp)]
            simp only [go_sem,seval,c6,wh2,h3,wh5,h6,wh8,h9,wh11,wh13,wh15,wh17,wh19,wh21,wh23,wh25,wh27,wh29,wh31,wh33,h34,wh36,h37,h55,wh57,h58,h59,h60,h61,wh63]
            exact ⟨_,rfl⟩
           obtain ⟨hh,this⟩:=this
           exact callIso_of rfl this (by first | rfl | simp only [go_sem,seval]) (by first | rfl | simp only [go_sem,seval])
          ·have hr:false=r:=Option.some.inj h
           subst hr
           have this:∃ hh,callFn prZ (X prZ) 6 [.agg [sl 3 vel a0.x,sl 3 vel a0.y,.int .i64 a0.lo,.int .i64 a0.hi],.bool a1] []=some (.bool false,false,hh):=by
            rw [callFn_at (show prZ.fns 6=some c6 from rfl) (by simp)]
            simp only [go_sem,seval,c6,wh2,h3,wh5,h6,wh8,h9,wh11,wh13,wh15,wh17,wh19,wh21,wh23,wh25,wh27,wh29,wh31,wh33,h34,wh36,h37,h55,wh57,h58,h59,h60,h61]
            exact ⟨_,rfl⟩
           obtain ⟨hh,this⟩:=this
           exact callIso_of rfl this (by first | rfl | simp only [go_sem,seval]) (by first | rfl | simp only [go_sem,seval])
         ·have hr:false=r:=Option.some.inj h
          subst hr
          have this:∃ hh,callFn prZ (X prZ) 6 [.agg [sl 3 vel a0.x,sl 3 vel a0.y,.int .i64 a0.lo,.int .i64 a0.hi],.bool a1] []=some (.bool false,false,hh):=by
           rw [callFn_at (show prZ.fns 6=some c6 from rfl) (by simp)]
           simp only [go_sem,seval,c6,wh2,h3,wh5,h6,wh8,h9,wh11,wh13,wh15,wh17,wh19,wh21,wh23,wh25,wh27,wh29,wh31,wh33,h34,wh36,h37,h55,wh57,h58,h59,h60]
           exact ⟨_,rfl⟩
          obtain ⟨hh,this⟩:=this
          exact callIso_of rfl this (by first | rfl | simp only [go_sem,seval]) (by first | rfl | simp only [go_sem,seval])
        ·have hr:false=r:=Option.some.inj h
         subst hr
         have this:∃ hh,callFn prZ (X prZ) 6 [.agg [sl 3 vel a0.x,sl 3 vel a0.y,.int .i64 a0.lo,.int .i64 a0.hi],.bool a1] []=some (.bool false,false,hh):=by
          rw [callFn_at (show prZ.fns 6=some c6 from rfl) (by simp)]
          simp only [go_sem,seval,c6,wh2,h3,wh5,h6,wh8,h9,wh11,wh13,wh15,wh17,wh19,wh21,wh23,wh25,wh27,wh29,wh31,wh33,h34,wh36,h37,h55,wh57,h58,h59]
          exact ⟨_,rfl⟩
         obtain ⟨hh,this⟩:=this
         exact callIso_of rfl this (by first | rfl | simp only [go_sem,seval]) (by first | rfl | simp only [go_sem,seval])
       ·have hr:false=r:=Option.some.inj h
        subst hr
        have this:∃ hh,callFn prZ (X prZ) 6 [.agg [sl 3 vel a0.x,sl 3 vel a0.y,.int .i64 a0.lo,.int .i64 a0.hi],.bool a1] []=some (.bool false,false,hh):=by
         rw [callFn_at (show prZ.fns 6=some c6 from rfl) (by simp)]
         simp only [go_sem,seval,c6,wh2,h3,wh5,h6,wh8,h9,wh11,wh13,wh15,wh17,wh19,wh21,wh23,wh25,wh27,wh29,wh31,wh33,h34,wh36,h37,h55,wh57,h58]
         exact ⟨_,rfl⟩
        obtain ⟨hh,this⟩:=this
        exact callIso_of rfl this (by first | rfl | simp only [go_sem,seval]) (by first | rfl | simp only [go_sem,seval])
      ·rcases cond_split h with ⟨h64,h⟩ | ⟨h64,h⟩
       ·rcases cond_split h with ⟨h65,h⟩ | ⟨h65,h⟩
        ·rcases cond_split h with ⟨h66,h⟩ | ⟨h66,h⟩
         ·rcases cond_split h with ⟨h67,h⟩ | ⟨h67,h⟩
          ·obtain ⟨v68,h69,h⟩:=obind_some h
           have wh69:callIso prZ (X prZ) 43 [.int .i64 v18.1,.int .i64 v18.2,.int .i64 v32,.int .i64 0]=some (.bool v68,false):=Q43 h69
           have hr:v68=r:=Option.some.inj h
           subst hr
           have this:∃ hh,callFn prZ (X prZ) 6 [.agg [sl 3 vel a0.x,sl 3 vel a0.y,.int .i64 a0.lo,.int .i64 a0.hi],.bool a1] []=some (.bool v68,false,hh):=by
            rw [callFn_at (show prZ.fns 6=some c6 from rfl) (by simp)]
            simp only [go_sem,seval,c6,wh2,h3,wh5,h6,wh8,h9,wh11,wh13,wh15,wh17,wh19,wh21,wh23,wh25,wh27,wh29,wh31,wh33,h34,wh36,h37,h55,h64,h65,h66,h67,wh69]
            exact ⟨_,rfl⟩
           obtain ⟨hh,this⟩:=this
           exact callIso_of rfl this (by first | rfl | simp only [go_sem,seval]) (by first | rfl | simp only [go_sem,seval])
          ·have hr:false=r:=Option.some.inj h
           subst hr
           have this:∃ hh,callFn prZ (X prZ) 6 [.agg [sl 3 vel a0.x,sl 3 vel a0.y,.int .i64 a0.lo,.int .i64 a0.hi],.bool a1] []=some (.bool false,false,hh):=by
            rw [callFn_at (show prZ.fns 6=some c6 from rfl) (by simp)]
            simp only [go_sem,seval,c6,wh2,h3,wh5,h6,wh8,h9,wh11,wh13,wh15,wh17,wh19,wh21,wh23,wh25,wh27,wh29,wh31,wh33,h34,wh36,h37,h55,h64,h65,h66,h67]
            exact ⟨_,rfl⟩
           obtain ⟨hh,this⟩:=this
           exact callIso_of rfl this (by first | rfl | simp only [go_sem,seval]) (by first | rfl | simp only [go_sem,seval])
         ·have hr:false=r:=Option.some.inj h
          subst hr
          have this:∃ hh,callFn prZ (X prZ) 6 [.agg [sl 3 vel a0.x,sl 3 vel a0.y,.int .i64 a0.lo,.int .i64 a0.hi],.bool a1] []=some (.bool false,false,hh):=by
           rw [callFn_at (show prZ.fns 6=some c6 from rfl) (by simp)]
           simp only [go_sem,seval,c6,wh2,h3,wh5,h6,wh8,h9,wh11,wh13,wh15,wh17,wh19,wh21,wh23,wh25,wh27,wh29,wh31,wh33,h34,wh36,h37,h55,h64,h65,h66]
           exact ⟨_,rfl⟩
          obtain ⟨hh,this⟩:=this
          exact callIso_of rfl this (by first | rfl | simp only [go_sem,seval]) (by first | rfl | simp only [go_sem,seval])
        ·have hr:false=r:=Option.some.inj h
         subst hr
         have this:∃ hh,callFn prZ (X prZ) 6 [.agg [sl 3 vel a0.x,sl 3 vel a0.y,.int .i64 a0.lo,.int .i64 a0.hi],.bool a1] []=some (.bool false,false,hh):=by
          rw [callFn_at (show prZ.fns 6=some c6 from rfl) (by simp)]
          simp only [go_sem,seval,c6,wh2,h3,wh5,h6,wh8,h9,wh11,wh13,wh15,wh17,wh19,wh21,wh23,wh25,wh27,wh29,wh31,wh33,h34,wh36,h37,h55,h64,h65]
          exact ⟨_,rfl⟩
         obtain ⟨hh,this⟩:=this
         exact callIso_of rfl this (by first | rfl | simp only [go_sem,seval]) (by first | rfl | simp only [go_sem,seval])
       ·have hr:false=r:=Option.some.inj h
        subst hr
        have this:∃ hh,callFn prZ (X prZ) 6 [.agg [sl 3 vel a0.x,sl 3 vel a0.y,.int .i64 a0.lo,.int .i64 a0.hi],.bool a1] []=some (.bool false,false,hh):=by
         rw [callFn_at (show prZ.fns 6=some c6 from rfl) (by simp)]
         simp only [go_sem,seval,c6,wh2,h3,wh5,h6,wh8,h9,wh11,wh13,wh15,wh17,wh19,wh21,wh23,wh25,wh27,wh29,wh31,wh33,h34,wh36,h37,h55,h64]
         exact ⟨_,rfl⟩
        obtain ⟨hh,this⟩:=this
        exact callIso_of rfl this (by first | rfl | simp only [go_sem,seval]) (by first | rfl | simp only [go_sem,seval])
    ·rcases cond_split h with ⟨h70,h⟩ | ⟨h70,h⟩
     ·obtain ⟨v71,h72,h⟩:=obind_some h
      have wh72:callIso prZ (X prZ) 53 [sl 3 vel a0.x,sl 3 vel a0.y,.int .i64 a0.lo,.int .i64 a0.hi]=some (.tup [.int .i64 v71.1,.int .i64 v71.2],false):=Q53 h72
      rcases cond_split h with ⟨h73,h⟩ | ⟨h73,h⟩
      ·rcases cond_split h with ⟨h74,h⟩ | ⟨h74,h⟩
       ·rcases cond_split h with ⟨h75,h⟩ | ⟨h75,h⟩
        ·rcases cond_split h with ⟨h76,h⟩ | ⟨h76,h⟩
         ·obtain ⟨v77,h78,h⟩:=obind_some h
          have wh78:callIso prZ (X prZ) 43 [.int .i64 v18.1,.int .i64 v18.2,.int .i64 v71.2,.int .i64 v71.1]=some (.bool v77,false):=Q43 h78
          have hr:v77=r:=Option.some.inj h
          subst hr
          have this:∃ hh,callFn prZ (X prZ) 6 [.agg [sl 3 vel a0.x,sl 3 vel a0.y,.int .i64 a0.lo,.int .i64 a0.hi],.bool a1] []=some (.bool v77,false,hh):=by
           rw [callFn_at (show prZ.fns 6=some c6 from rfl) (by simp)]
           simp only [go_sem,seval,c6,wh2,h3,wh5,h6,wh8,h9,wh11,wh13,wh15,wh17,wh19,wh21,wh23,wh25,wh27,wh29,wh31,wh33,h34,h70,wh72,h73,h74,h75,h76,wh78]
           exact ⟨_,rfl⟩
          obtain ⟨hh,this⟩:=this
          exact callIso_of rfl this (by first | rfl | simp only [go_sem,seval]) (by first | rfl | simp only [go_sem,seval])
         ·have hr:false=r:=Option.some.inj h
          subst hr
          have this:∃ hh,callFn prZ (X prZ) 6 [.agg [sl 3 vel a0.x,sl 3 vel a0.y,.int .i64 a0.lo,.int .i64 a0.hi],.bool a1] []=some (.bool false,false,hh):=by
           rw [callFn_at (show prZ.fns 6=some c6 from rfl) (by simp)]
           simp only [go_sem,seval,c6,wh2,h3,wh5,h6,wh8,h9,wh11,wh13,wh15,wh17,wh19,wh21,wh23,wh25,wh27,wh29,wh31,wh33,h34,h70,wh72,h73,h74,h75,h76]
           exact ⟨_,rfl⟩
          obtain ⟨hh,this⟩:=this
          exact callIso_of rfl this (by first | rfl | simp only [go_sem,seval]) (by first | rfl | simp only [go_sem,seval])
        ·have hr:false=r:=Option.some.inj h
         subst hr
         have this:∃ hh,callFn prZ (X prZ) 6 [.agg [sl 3 vel a0.x,sl 3 vel a0.y,.int .i64 a0.lo,.int .i64 a0.hi],.bool a1] []=some (.bool false,false,hh):=by
          rw [callFn_at (show prZ.fns 6=some c6 from rfl) (by simp)]
          simp only [go_sem,seval,c6,wh2,h3,wh5,h6,wh8,h9,wh11,wh13,wh15,wh17,wh19,wh21,wh23,wh25,wh27,wh29,wh31,wh33,h34,h70,wh72,h73,h74,h75]
          exact ⟨_,rfl⟩
         obtain ⟨hh,this⟩:=this
         exact callIso_of rfl this (by first | rfl | simp only [go_sem,seval]) (by first | rfl | simp only [go_sem,seval])
       ·have hr:false=r:=Option.some.inj h
        subst hr
        have this:∃ hh,callFn prZ (X prZ) 6 [.agg [sl 3 vel a0.x,sl 3 vel a0.y,.int .i64 a0.lo,.int .i64 a0.hi],.bool a1] []=some (.bool false,false,hh):=by
         rw [callFn_at (show prZ.fns 6=some c6 from rfl) (by simp)]
         simp only [go_sem,seval,c6,wh2,h3,wh5,h6,wh8,h9,wh11,wh13,wh15,wh17,wh19,wh21,wh23,wh25,wh27,wh29,wh31,wh33,h34,h70,wh72,h73,h74]
         exact ⟨_,rfl⟩
        obtain ⟨hh,this⟩:=this
        exact callIso_of rfl this (by first | rfl | simp only [go_sem,seval]) (by first | rfl | simp only [go_sem,seval])
      ·have hr:false=r:=Option.some.inj h
       subst hr
       have this:∃ hh,callFn prZ (X prZ) 6 [.agg [sl 3 vel a0.x,sl 3 vel a0.y,.int .i64 a0.lo,.int .i64 a0.hi],.bool a1] []=some (.bool false,false,hh):=by
        rw [callFn_at (show prZ.fns 6=some c6 from rfl) (by simp)]
        simp only [go_sem,seval,c6,wh2,h3,wh5,h6,wh8,h9,wh11,wh13,wh15,wh17,wh19,wh21,wh23,wh25,wh27,wh29,wh31,wh33,h34,h70,wh72,h73]
        exact ⟨_,rfl⟩
       obtain ⟨hh,this⟩:=this
       exact callIso_of rfl this (by first | rfl | simp only [go_sem,seval]) (by first | rfl | simp only [go_sem,seval])
     ·rcases cond_split h with ⟨h79,h⟩ | ⟨h79,h⟩
      ·rcases cond_split h with ⟨h80,h⟩ | ⟨h80,h⟩
       ·rcases cond_split h with ⟨h81,h⟩ | ⟨h81,h⟩
        ·rcases cond_split h with ⟨h82,h⟩ | ⟨h82,h⟩
         ·obtain ⟨v83,h84,h⟩:=obind_some h
          have wh84:callIso prZ (X prZ) 43 [.int .i64 v18.1,.int .i64 v18.2,.int .i64 v32,.int .i64 0]=some (.bool v83,false):=Q43 h84
          have hr:v83=r:=Option.some.inj h
          subst hr
          have this:∃ hh,callFn prZ (X prZ) 6 [.agg [sl 3 vel a0.x,sl 3 vel a0.y,.int .i64 a0.lo,.int .i64 a0.hi],.bool a1] []=some (.bool v83,false,hh):=by
           rw [callFn_at (show prZ.fns 6=some c6 from rfl) (by simp)]
           simp only [go_sem,seval,c6,wh2,h3,wh5,h6,wh8,h9,wh11,wh13,wh15,wh17,wh19,wh21,wh23,wh25,wh27,wh29,wh31,wh33,h34,h70,h79,h80,h81,h82,wh84]
           exact ⟨_,rfl⟩
          obtain ⟨hh,this⟩:=this
          exact callIso_of rfl this (by first | rfl | simp only [go_sem,seval]) (by first | rfl | simp only [go_sem,seval])
         ·have hr:false=r:=Option.some.inj h
          subst hr
          have this:∃ hh,callFn prZ (X prZ) 6 [.agg [sl 3 vel a0.x,sl 3 vel a0.y,.int .i64 a0.lo,.int .i64 a0.hi],.bool a1] []=some (.bool false,false,hh):=by
           rw [callFn_at (show prZ.fns 6=some c6 from rfl) (by simp)]
           simp only [go_sem,seval,c6,wh2,h3,wh5,h6,wh8,h9,wh11,wh13,wh15,wh17,wh19,wh21,wh23,wh25,wh27,wh29,wh31,wh33,h34,h70,h79,h80,h81,h82]
           exact ⟨_,rfl⟩
          obtain ⟨hh,this⟩:=this
          exact callIso_of rfl this (by first | rfl | simp only [go_sem,seval]) (by first | rfl | simp only [go_sem,seval])
        ·have hr:false=r:=Option.some.inj h
         subst hr
         have this:∃ hh,callFn prZ (X prZ) 6 [.agg [sl 3 vel a0.x,sl 3 vel a0.y,.int .i64 a0.lo,.int .i64 a0.hi],.bool a1] []=some (.bool false,false,hh):=by
          rw [callFn_at (show prZ.fns 6=some c6 from rfl) (by simp)]
          simp only [go_sem,seval,c6,wh2,h3,wh5,h6,wh8,h9,wh11,wh13,wh15,wh17,wh19,wh21,wh23,wh25,wh27,wh29,wh31,wh33,h34,h70,h79,h80,h81]
          exact ⟨_,rfl⟩
         obtain ⟨hh,this⟩:=this
         exact callIso_of rfl this (by first | rfl | simp only [go_sem,seval]) (by first | rfl | simp only [go_sem,seval])
       ·have hr:false=r:=Option.some.inj h
        subst hr
        have this:∃ hh,callFn prZ (X prZ) 6 [.agg [sl 3 vel a0.x,sl 3 vel a0.y,.int .i64 a0.lo,.int .i64 a0.hi],.bool a1] []=some (.bool false,false,hh):=by
         rw [callFn_at (show prZ.fns 6=some c6 from rfl) (by simp)]
         simp only [go_sem,seval,c6,wh2,h3,wh5,h6,wh8,h9,wh11,wh13,wh15,wh17,wh19,wh21,wh23,wh25,wh27,wh29,wh31,wh33,h34,h70,h79,h80]
         exact ⟨_,rfl⟩
        obtain ⟨hh,this⟩:=this
        exact callIso_of rfl this (by first | rfl | simp only [go_sem,seval]) (by first | rfl | simp only [go_sem,seval])
      ·have hr:false=r:=Option.some.inj h
       subst hr
       have this:∃ hh,callFn prZ (X prZ) 6 [.agg [sl 3 vel a0.x,sl 3 vel a0.y,.int .i64 a0.lo,.int .i64 a0.hi],.bool a1] []=some (.bool false,false,hh):=by
        rw [callFn_at (show prZ.fns 6=some c6 from rfl) (by simp)]
        simp only [go_sem,seval,c6,wh2,h3,wh5,h6,wh8,h9,wh11,wh13,wh15,wh17,wh19,wh21,wh23,wh25,wh27,wh29,wh31,wh33,h34,h70,h79]
        exact ⟨_,rfl⟩
       obtain ⟨hh,this⟩:=this
       exact callIso_of rfl this (by first | rfl | simp only [go_sem,seval]) (by first | rfl | simp only [go_sem,seval])
   ·have hr:v1=r:=Option.some.inj h
    subst hr
    have this:∃ hh,callFn prZ (X prZ) 6 [.agg [sl 3 vel a0.x,sl 3 vel a0.y,.int .i64 a0.lo,.int .i64 a0.hi],.bool a1] []=some (.bool v1,false,hh):=by
     rw [callFn_at (show prZ.fns 6=some c6 from rfl) (by simp)]
     simp only [go_sem,seval,c6,wh2,h3,wh5,h6,wh8,h9]
     exact ⟨_,rfl⟩
    obtain ⟨hh,this⟩:=this
    exact callIso_of rfl this (by first | rfl | simp only [go_sem,seval]) (by first | rfl | simp only [go_sem,seval])
  ·have hr:v1=r:=Option.some.inj h
   subst hr
   have this:∃ hh,callFn prZ (X prZ) 6 [.agg [sl 3 vel a0.x,sl 3 vel a0.y,.int .i64 a0.lo,.int .i64 a0.hi],.bool a1] []=some (.bool v1,false,hh):=by
    rw [callFn_at (show prZ.fns 6=some c6 from rfl) (by simp)]
    simp only [go_sem,seval,c6,wh2,h3,wh5,h6]
    exact ⟨_,rfl⟩
   obtain ⟨hh,this⟩:=this
   exact callIso_of rfl this (by first | rfl | simp only [go_sem,seval]) (by first | rfl | simp only [go_sem,seval])
 ·have hr:v1=r:=Option.some.inj h
  subst hr
  have this:∃ hh,callFn prZ (X prZ) 6 [.agg [sl 3 vel a0.x,sl 3 vel a0.y,.int .i64 a0.lo,.int .i64 a0.hi],.bool a1] []=some (.bool v1,false,hh):=by
   rw [callFn_at (show prZ.fns 6=some c6 from rfl) (by simp)]
   simp only [go_sem,seval,c6,wh2,h3]
   exact ⟨_,rfl⟩
  obtain ⟨hh,this⟩:=this
  exact callIso_of rfl this (by first | rfl | simp only [go_sem,seval]) (by first | rfl | simp only [go_sem,seval])
end Go.Z
