/-
  LineTexts: the laws: functions that mirror the runs, and the runs (printed by walk.py; seat .ZD).
-/
import Derived.Test.YtoljkienfmckjaaGreatDoorN12
import Derived.Test.YtoljkienfmckjaaGreatDoorR1
import Derived.Test.YtoljkienfmckjaaGreatDoorG0m
import Derived.Test.YtoljkienfmckjaaGreatDoorN0
set_option linter.unusedVariables false
set_option linter.unusedSimpArgs false
set_option maxRecDepth 100000
set_option maxHeartbeats 4000000
namespace Go.Z
open Go Go.Abs
noncomputable def f3 (a0:Option (List GUnit)) (a1:List UInt8):Option Bool:=
 obind (E5) fun v1=>
 cond v1
  (obind (E6 a0 10) fun v4=>
  cond v4
   (cond (decide (300 < (a1.length:Int)))
    (some v1)
    (obind (E8 a0) fun v8=>
    obind (f7 v8) fun v10=>
    obind (f9 a1) fun v12=>
    obind (E10w a0) fun v14=>
    cond (decide (v14=0))
     (obind (f11 a0) fun v17=>
     obind (f12 a1) fun v19=>
     cond (decide (v10.1=v17))
      (cond (decide (v10.2=v14))
       (obind (f14 v12.1) fun v23=>
       obind (f13 v23.1 v19.1) fun v25=>
       cond v25
        (cond (decide (v12.2.1=v19.2.1))
         (some (decide (v12.2.2=v19.2.2)))
         (some false))
        (some false))
       (some false))
      (some false))
     (obind (f12 a1) fun v29=>
     cond (decide (v10.1=[]))
      (cond (decide (v10.2=v14))
       (obind (f14 v12.1) fun v33=>
       obind (f13 v33.1 v29.1) fun v35=>
       cond v35
        (cond (decide (v12.2.1=v29.2.1))
         (some (decide (v12.2.2=v29.2.2)))
         (some false))
        (some false))
       (some false))
      (some false))))
   (some v1))
  (some v1)
theorem W3 {a0:Option (List GUnit)} {a1:List UInt8} {r} (h:f3 a0 a1=some r):callIso prE (X prE) 3 [sl 2 vunit a0,.str a1]=some (.bool r,false):=by
 unfold f3 at h
 obtain ⟨v1,h2,h⟩:=obind_some h
 have wh2:callIso prE (X prE) 5 []=some (.bool v1,false):=Q5 h2
 rcases cond_split h with ⟨h3,h⟩ | ⟨h3,h⟩
 ·obtain ⟨v4,h5,h⟩:=obind_some h
  have wh5:callIso prE (X prE) 6 [sl 2 vunit a0,.int .i64 10]=some (.bool v4,false):=Q6 h5
  rcases cond_split h with ⟨h6,h⟩ | ⟨h6,h⟩
  ·rcases cond_split h with ⟨h7,h⟩ | ⟨h7,h⟩
   ·have hr:v1=r:=Option.some.inj h
    subst hr
    have this:∃ hh,callFn prE (X prE) 3 [sl 2 vunit a0,.str a1] []=some (.bool v1,false,hh):=by
     rw [callFn_at (show prE.fns 3=some c3 from rfl) (by simp)]
     simp only [go_sem,seval,c3,wh2,h3,wh5,h6,h7]
     exact ⟨_,rfl⟩
    obtain ⟨hh,this⟩:=this
    exact callIso_of rfl this (by first | rfl | simp only [go_sem,seval]) (by first | rfl | simp only [go_sem,seval])
   ·obtain ⟨v8,h9,h⟩:=obind_some h
    have wh9:callIso prE (X prE) 8 [sl 2 vunit a0]=some (sl 2 vunit v8,(accO (a0.getD []))):=Q8 h9
    obtain ⟨v10,h11,h⟩:=obind_some h
    have wh11:callIso prE (X prE) 7 [sl 2 vunit v8]=some (.tup [.str v10.1,.int .i64 v10.2],false):=W7 h11
    obtain ⟨v12,h13,h⟩:=obind_some h
    have wh13:callIso prE (X prE) 9 [.str a1]=some (.tup [sl 2 vunit v12.1,.int .i64 v12.2.1,.int .i64 v12.2.2],false):=Q9 h13
    obtain ⟨v14,h15,h⟩:=obind_some h
    have wh15:callIso prE (X prE) 10 [sl 2 vunit a0]=some (.int .i64 v14,false):=Q10 h15
    rcases cond_split h with ⟨h16,h⟩ | ⟨h16,h⟩
    ·obtain ⟨v17,h18,h⟩:=obind_some h
     have wh18:callIso prE (X prE) 11 [sl 2 vunit a0]=some (.str v17,false):=Q11 h18
     obtain ⟨v19,h20,h⟩:=obind_some h
     have wh20:callIso prE (X prE) 12 [.str a1]=some (.tup [sl 2 vunit v19.1,.int .i64 v19.2.1,.int .i64 v19.2.2],false):=Q12 h20
     rcases cond_split h with ⟨h21,h⟩ | ⟨h21,h⟩
     ·rcases cond_split h with ⟨h22,h⟩ | ⟨h22,h⟩
      ·obtain ⟨v23,h24,h⟩:=obind_some h
       have wh24:callIso prE (X prE) 14 [sl 2 vunit v12.1]=some (sl 2 vunit v23.1,v23.2):=Q14 h24
       obtain ⟨v25,h26,h⟩:=obind_some h
       have wh26:callIso prE (X prE) 13 [sl 2 vunit v23.1,sl 2 vunit v19.1]=some (.bool v25,false):=Q13 h26
       rcases cond_split h with ⟨h27,h⟩ | ⟨h27,h⟩
       ·rcases cond_split h with ⟨h28,h⟩ | ⟨h28,h⟩
        ·have hr:decide (v12.2.2=v19.2.2)=r:=Option.some.inj h
         subst hr
         have this:∃ hh,callFn prE (X prE) 3 [sl 2 vunit a0,.str a1] []=some (.bool (decide (v12.2.2=v19.2.2)),false,hh):=by
          rw [callFn_at (show prE.fns 3=some c3 from rfl) (by simp)]
          simp only [go_sem,seval,c3,wh2,h3,wh5,h6,h7,wh9,wh11,wh13,wh15,h16,wh18,wh20,h21,h22,wh24,wh26,h27,h28]
          exact ⟨_,rfl⟩
         obtain ⟨hh,this⟩:=this
         exact callIso_of rfl this (by first | rfl | simp only [go_sem,seval]) (by first | rfl | simp only [go_sem,seval])
        ·have hr:false=r:=Option.some.inj h
         subst hr
         have this:∃ hh,callFn prE (X prE) 3 [sl 2 vunit a0,.str a1] []=some (.bool false,false,hh):=by
          rw [callFn_at (show prE.fns 3=some c3 from rfl) (by simp)]
          simp only [go_sem,seval,c3,wh2,h3,wh5,h6,h7,wh9,wh11,wh13,wh15,h16,wh18,wh20,h21,h22,wh24,wh26,h27,h28]
          exact ⟨_,rfl⟩
         obtain ⟨hh,this⟩:=this
         exact callIso_of rfl this (by first | rfl | simp only [go_sem,seval]) (by first | rfl | simp only [go_sem,seval])
       ·have hr:false=r:=Option.some.inj h
        subst hr
        have this:∃ hh,callFn prE (X prE) 3 [sl 2 vunit a0,.str a1] []=some (.bool false,false,hh):=by
         rw [callFn_at (show prE.fns 3=some c3 from rfl) (by simp)]
         simp only [go_sem,seval,c3,wh2,h3,wh5,h6,h7,wh9,wh11,wh13,wh15,h16,wh18,wh20,h21,h22,wh24,wh26,h27]
         exact ⟨_,rfl⟩
        obtain ⟨hh,this⟩:=this
        exact callIso_of rfl this (by first | rfl | simp only [go_sem,seval]) (by first | rfl | simp only [go_sem,seval])
      ·have hr:false=r:=Option.some.inj h
       subst hr
       have this:∃ hh,callFn prE (X prE) 3 [sl 2 vunit a0,.str a1] []=some (.bool false,false,hh):=by
        rw [callFn_at (show prE.fns 3=some c3 from rfl) (by simp)]
        simp only [go_sem,seval,c3,wh2,h3,wh5,h6,h7,wh9,wh11,wh13,wh15,h16,wh18,wh20,h21,h22]
        exact ⟨_,rfl⟩
       obtain ⟨hh,this⟩:=this
       exact callIso_of rfl this (by first | rfl | simp only [go_sem,seval]) (by first | rfl | simp only [go_sem,seval])
     ·have hr:false=r:=Option.some.inj h
      subst hr
      have this:∃ hh,callFn prE (X prE) 3 [sl 2 vunit a0,.str a1] []=some (.bool false,false,hh):=by
       rw [callFn_at (show prE.fns 3=some c3 from rfl) (by simp)]
       simp only [go_sem,seval,c3,wh2,h3,wh5,h6,h7,wh9,wh11,wh13,wh15,h16,wh18,wh20,h21]
       exact ⟨_,rfl⟩
      obtain ⟨hh,this⟩:=this
      exact callIso_of rfl this (by first | rfl | simp only [go_sem,seval]) (by first | rfl | simp only [go_sem,seval])
    ·obtain ⟨v29,h30,h⟩:=obind_some h
     have wh30:callIso prE (X prE) 12 [.str a1]=some (.tup [sl 2 vunit v29.1,.int .i64 v29.2.1,.int .i64 v29.2.2],false):=Q12 h30
     rcases cond_split h with ⟨h31,h⟩ | ⟨h31,h⟩
     ·rcases cond_split h with ⟨h32,h⟩ | ⟨h32,h⟩
      ·obtain ⟨v33,h34,h⟩:=obind_some h
       have wh34:callIso prE (X prE) 14 [sl 2 vunit v12.1]=some (sl 2 vunit v33.1,v33.2):=Q14 h34
       obtain ⟨v35,h36,h⟩:=obind_some h
       have wh36:callIso prE (X prE) 13 [sl 2 vunit v33.1,sl 2 vunit v29.1]=some (.bool v35,false):=Q13 h36
       rcases cond_split h with ⟨h37,h⟩ | ⟨h37,h⟩
       ·rcases cond_split h with ⟨h38,h⟩ | ⟨h38,h⟩
        ·have hr:decide (v12.2.2=v29.2.2)=r:=Option.some.inj h
         subst hr
         have this:∃ hh,callFn prE (X prE) 3 [sl 2 vunit a0,.str a1] []=some (.bool (decide (v12.2.2=v29.2.2)),false,hh):=by
          rw [callFn_at (show prE.fns 3=some c3 from rfl) (by simp)]
          simp only [go_sem,seval,c3,wh2,h3,wh5,h6,h7,wh9,wh11,wh13,wh15,h16,wh30,h31,h32,wh34,wh36,h37,h38]
          exact ⟨_,rfl⟩
         obtain ⟨hh,this⟩:=this
         exact callIso_of rfl this (by first | rfl | simp only [go_sem,seval]) (by first | rfl | simp only [go_sem,seval])
        ·have hr:false=r:=Option.some.inj h
         subst hr
         have this:∃ hh,callFn prE (X prE) 3 [sl 2 vunit a0,.str a1] []=some (.bool false,false,hh):=by
          rw [callFn_at (show prE.fns 3=some c3 from rfl) (by simp)]
          simp only [go_sem,seval,c3,wh2,h3,wh5,h6,h7,wh9,wh11,wh13,wh15,h16,wh30,h31,h32,wh34,wh36,h37,h38]
          exact ⟨_,rfl⟩
         obtain ⟨hh,this⟩:=this
         exact callIso_of rfl this (by first | rfl | simp only [go_sem,seval]) (by first | rfl | simp only [go_sem,seval])
       ·have hr:false=r:=Option.some.inj h
        subst hr
        have this:∃ hh,callFn prE (X prE) 3 [sl 2 vunit a0,.str a1] []=some (.bool false,false,hh):=by
         rw [callFn_at (show prE.fns 3=some c3 from rfl) (by simp)]
         simp only [go_sem,seval,c3,wh2,h3,wh5,h6,h7,wh9,wh11,wh13,wh15,h16,wh30,h31,h32,wh34,wh36,h37]
         exact ⟨_,rfl⟩
        obtain ⟨hh,this⟩:=this
        exact callIso_of rfl this (by first | rfl | simp only [go_sem,seval]) (by first | rfl | simp only [go_sem,seval])
      ·have hr:false=r:=Option.some.inj h
       subst hr
       have this:∃ hh,callFn prE (X prE) 3 [sl 2 vunit a0,.str a1] []=some (.bool false,false,hh):=by
        rw [callFn_at (show prE.fns 3=some c3 from rfl) (by simp)]
        simp only [go_sem,seval,c3,wh2,h3,wh5,h6,h7,wh9,wh11,wh13,wh15,h16,wh30,h31,h32]
        exact ⟨_,rfl⟩
       obtain ⟨hh,this⟩:=this
       exact callIso_of rfl this (by first | rfl | simp only [go_sem,seval]) (by first | rfl | simp only [go_sem,seval])
     ·have hr:false=r:=Option.some.inj h
      subst hr
      have this:∃ hh,callFn prE (X prE) 3 [sl 2 vunit a0,.str a1] []=some (.bool false,false,hh):=by
       rw [callFn_at (show prE.fns 3=some c3 from rfl) (by simp)]
       simp only [go_sem,seval,c3,wh2,h3,wh5,h6,h7,wh9,wh11,wh13,wh15,h16,wh30,h31]
       exact ⟨_,rfl⟩
      obtain ⟨hh,this⟩:=this
      exact callIso_of rfl this (by first | rfl | simp only [go_sem,seval]) (by first | rfl | simp only [go_sem,seval])
  ·have hr:v1=r:=Option.some.inj h
   subst hr
   have this:∃ hh,callFn prE (X prE) 3 [sl 2 vunit a0,.str a1] []=some (.bool v1,false,hh):=by
    rw [callFn_at (show prE.fns 3=some c3 from rfl) (by simp)]
    simp only [go_sem,seval,c3,wh2,h3,wh5,h6]
    exact ⟨_,rfl⟩
   obtain ⟨hh,this⟩:=this
   exact callIso_of rfl this (by first | rfl | simp only [go_sem,seval]) (by first | rfl | simp only [go_sem,seval])
 ·have hr:v1=r:=Option.some.inj h
  subst hr
  have this:∃ hh,callFn prE (X prE) 3 [sl 2 vunit a0,.str a1] []=some (.bool v1,false,hh):=by
   rw [callFn_at (show prE.fns 3=some c3 from rfl) (by simp)]
   simp only [go_sem,seval,c3,wh2,h3]
   exact ⟨_,rfl⟩
  obtain ⟨hh,this⟩:=this
  exact callIso_of rfl this (by first | rfl | simp only [go_sem,seval]) (by first | rfl | simp only [go_sem,seval])
end Go.Z
