/- Chapter 4. -/
import Derived.Test.YtnjngdcbkkonnaaGreatDoorA25
import Derived.Test.YtnjngdcbkkonnaaGreatDoorA27
import Derived.Test.YtnjngdcbkkonnaaGreatDoorA2
import Derived.Test.YtnjngdcbkkonnaaGreatDoorG0
import Derived.Test.YtnjngdcbkkonnaaGreatDoorAbsL
set_option linter.unusedVariables false
set_option linter.unusedSimpArgs false
set_option maxRecDepth 100000
set_option maxHeartbeats 4000000
namespace Go.Z
open Go Go.Abs
theorem U17 {a0:Option (List qf)} {r} (h:f17 a0=some r):qd prV (X prV) 17 [sl 8 qn a0]=some (.bool r,false):=atV rfl rfl (atZ rfl rfl (atE rfl rfl (W17 h) (by first | rfl | simp only [go_sem,seval])) (by first | rfl | simp only [go_sem,seval])) (by first | rfl | simp only [go_sem,seval])
theorem U24 {a0:Option (List qf)} {r} (h:f24 a0=some r):qd prV (X prV) 24 [sl 8 qn a0]=some (sl 8 qn r.1,r.2):=atV rfl rfl (atZ rfl rfl (atE rfl rfl (W24 h) (by first | rfl | simp only [go_sem,seval])) (by first | rfl | simp only [go_sem,seval])) (by first | rfl | simp only [go_sem,seval])
theorem U25 {a0:Option (List qf)} {r} (h:f25 a0=some r):qd prV (X prV) 25 [sl 8 qn a0]=some (.int .i64 r,false):=atV rfl rfl (atZ rfl rfl (atE rfl rfl (W25 h) (by first | rfl | simp only [go_sem,seval])) (by first | rfl | simp only [go_sem,seval])) (by first | rfl | simp only [go_sem,seval])
theorem U74 {a0:Option (List qf)} {a1:Option (List qf)} {r} (h:f74 a0 a1=some r):qd prV (X prV) 74 [sl 8 qn a0,sl 8 qn a1]=some (.bool r,false):=atV rfl rfl (atZ rfl rfl (atE rfl rfl (W74 h) (by first | rfl | simp only [go_sem,seval])) (by first | rfl | simp only [go_sem,seval])) (by first | rfl | simp only [go_sem,seval])
theorem U75 {a0:Option (List qf)} {r} (h:f75 a0=some r):qd prV (X prV) 75 [sl 8 qn a0]=some (sl 8 qn r.1,r.2):=atV rfl rfl (atZ rfl rfl (atE rfl rfl (W75 h) (by first | rfl | simp only [go_sem,seval])) (by first | rfl | simp only [go_sem,seval])) (by first | rfl | simp only [go_sem,seval])
theorem U94 {a0:Option (List qf)} {r} (h:f94 a0=some r):qd prV (X prV) 94 [sl 8 qn a0]=some (.str r,false):=atV rfl rfl (atZ rfl rfl (atE rfl rfl (W94 h) (by first | rfl | simp only [go_sem,seval])) (by first | rfl | simp only [go_sem,seval])) (by first | rfl | simp only [go_sem,seval])
theorem U95 {a0:List UInt8} {r} (h:f95 a0=some r):qd prV (X prV) 95 [.str a0]=some (.tup [sl 8 qn r.1,.int .i64 r.2.1,.int .i64 r.2.2],false):=atV rfl rfl (atZ rfl rfl (atE rfl rfl (W95 h) (by first | rfl | simp only [go_sem,seval])) (by first | rfl | simp only [go_sem,seval])) (by first | rfl | simp only [go_sem,seval])
theorem U92 {a0:Option (List qf)} {r} (h:f92 a0=some r):qd prV (X prV) 92 [sl 8 qn a0]=some (.tup [.str r.1,.int .i64 r.2],false):=atV rfl rfl (atZ rfl rfl (W92 h) (by first | rfl | simp only [go_sem,seval])) (by first | rfl | simp only [go_sem,seval])
theorem U16 {r} (h:E16=some r):qd prV (X prV) 16 []=some (.bool r,false):=atV rfl rfl (Q16 h) rfl
noncomputable def f14 (a0:Option (List qf)) (a1:List UInt8):Option Bool:=
 qg (E16) fun v1=>
 cond v1
  (qg (f17 a0) fun v4=>
  cond v4
   (cond (decide (300 < (a1.length:Int)))
    (some v1)
    (qg (f24 a0) fun v8=>
    qg (f92 v8.1) fun v10=>
    qg (f93 a1) fun v12=>
    qg (f25 a0) fun v14=>
    cond (decide (v14=0))
     (qg (f94 a0) fun v17=>
     qg (f95 a1) fun v19=>
     cond (decide (v10.1=v17))
      (cond (decide (v10.2=v14))
       (qg (f75 v12.1) fun v23=>
       qg (f74 v23.1 v19.1) fun v25=>
       cond v25
        (cond (decide (v12.2.1=v19.2.1))
         (some (decide (v12.2.2=v19.2.2)))
         (some false))
        (some false))
       (some false))
      (some false))
     (qg (f95 a1) fun v29=>
     cond (decide (v10.1=[]))
      (cond (decide (v10.2=v14))
       (qg (f75 v12.1) fun v33=>
       qg (f74 v33.1 v29.1) fun v35=>
       cond v35
        (cond (decide (v12.2.1=v29.2.1))
         (some (decide (v12.2.2=v29.2.2)))
         (some false))
        (some false))
       (some false))
      (some false))))
   (some v1))
  (some v1)
theorem W14 {a0:Option (List qf)} {a1:List UInt8} {r} (h:f14 a0 a1=some r):qd prV (X prV) 14 [sl 8 qn a0,.str a1]=some (.bool r,false):=by
 unfold f14 at h
 obtain ⟨v1,h2,h⟩:=qb h
 have wh2:qd prV (X prV) 16 []=some (.bool v1,false):=U16 h2
 rcases qa h with ⟨h3,h⟩ | ⟨h3,h⟩
 ·obtain ⟨v4,h5,h⟩:=qb h
  have wh5:qd prV (X prV) 17 [sl 8 qn a0]=some (.bool v4,false):=U17 h5
  rcases qa h with ⟨h6,h⟩ | ⟨h6,h⟩
  ·rcases qa h with ⟨h7,h⟩ | ⟨h7,h⟩
   ·have hr:v1=r:=Option.some.inj h
    subst hr
    have this:∃ hh,ja prV (X prV) 14 [sl 8 qn a0,.str a1] []=some (.bool v1,false,hh):=by
     rw [ql (show prV.fns 14=some c14 from rfl) (by simp)]
     simp only [go_sem,seval,c14,wh2,h3,wh5,h6,h7]
     exact ⟨_,rfl⟩
    obtain ⟨hh,this⟩:=this
    exact jj rfl this (by first | rfl | simp only [go_sem,seval]) (by first | rfl | simp only [go_sem,seval])
   ·obtain ⟨v8,h9,h⟩:=qb h
    have wh9:qd prV (X prV) 24 [sl 8 qn a0]=some (sl 8 qn v8.1,v8.2):=U24 h9
    obtain ⟨v10,h11,h⟩:=qb h
    have wh11:qd prV (X prV) 92 [sl 8 qn v8.1]=some (.tup [.str v10.1,.int .i64 v10.2],false):=U92 h11
    obtain ⟨v12,h13,h⟩:=qb h
    have wh13:qd prV (X prV) 93 [.str a1]=some (.tup [sl 8 qn v12.1,.int .i64 v12.2.1,.int .i64 v12.2.2],false):=W93 h13
    obtain ⟨v14,h15,h⟩:=qb h
    have wh15:qd prV (X prV) 25 [sl 8 qn a0]=some (.int .i64 v14,false):=U25 h15
    rcases qa h with ⟨h16,h⟩ | ⟨h16,h⟩
    ·obtain ⟨v17,h18,h⟩:=qb h
     have wh18:qd prV (X prV) 94 [sl 8 qn a0]=some (.str v17,false):=U94 h18
     obtain ⟨v19,h20,h⟩:=qb h
     have wh20:qd prV (X prV) 95 [.str a1]=some (.tup [sl 8 qn v19.1,.int .i64 v19.2.1,.int .i64 v19.2.2],false):=U95 h20
     rcases qa h with ⟨h21,h⟩ | ⟨h21,h⟩
     ·rcases qa h with ⟨h22,h⟩ | ⟨h22,h⟩
      ·obtain ⟨v23,h24,h⟩:=qb h
       have wh24:qd prV (X prV) 75 [sl 8 qn v12.1]=some (sl 8 qn v23.1,v23.2):=U75 h24
       obtain ⟨v25,h26,h⟩:=qb h
       have wh26:qd prV (X prV) 74 [sl 8 qn v23.1,sl 8 qn v19.1]=some (.bool v25,false):=U74 h26
       rcases qa h with ⟨h27,h⟩ | ⟨h27,h⟩
       ·rcases qa h with ⟨h28,h⟩ | ⟨h28,h⟩
        ·have hr:decide (v12.2.2=v19.2.2)=r:=Option.some.inj h
         subst hr
         have this:∃ hh,ja prV (X prV) 14 [sl 8 qn a0,.str a1] []=some (.bool (decide (v12.2.2=v19.2.2)),false,hh):=by
          rw [ql (show prV.fns 14=some c14 from rfl) (by simp)]
          simp only [go_sem,seval,c14,wh2,h3,wh5,h6,h7,wh9,wh11,wh13,wh15,h16,wh18,wh20,h21,h22,wh24,wh26,h27,h28]
          exact ⟨_,rfl⟩
         obtain ⟨hh,this⟩:=this
         exact jj rfl this (by first | rfl | simp only [go_sem,seval]) (by first | rfl | simp only [go_sem,seval])
        ·have hr:false=r:=Option.some.inj h
         subst hr
         have this:∃ hh,ja prV (X prV) 14 [sl 8 qn a0,.str a1] []=some (.bool false,false,hh):=by
          rw [ql (show prV.fns 14=some c14 from rfl) (by simp)]
          simp only [go_sem,seval,c14,wh2,h3,wh5,h6,h7,wh9,wh11,wh13,wh15,h16,wh18,wh20,h21,h22,wh24,wh26,h27,h28]
          exact ⟨_,rfl⟩
         obtain ⟨hh,this⟩:=this
         exact jj rfl this (by first | rfl | simp only [go_sem,seval]) (by first | rfl | simp only [go_sem,seval])
       ·have hr:false=r:=Option.some.inj h
        subst hr
        have this:∃ hh,ja prV (X prV) 14 [sl 8 qn a0,.str a1] []=some (.bool false,false,hh):=by
         rw [ql (show prV.fns 14=some c14 from rfl) (by simp)]
         simp only [go_sem,seval,c14,wh2,h3,wh5,h6,h7,wh9,wh11,wh13,wh15,h16,wh18,wh20,h21,h22,wh24,wh26,h27]
         exact ⟨_,rfl⟩
        obtain ⟨hh,this⟩:=this
        exact jj rfl this (by first | rfl | simp only [go_sem,seval]) (by first | rfl | simp only [go_sem,seval])
      ·have hr:false=r:=Option.some.inj h
       subst hr
       have this:∃ hh,ja prV (X prV) 14 [sl 8 qn a0,.str a1] []=some (.bool false,false,hh):=by
        rw [ql (show prV.fns 14=some c14 from rfl) (by simp)]
        simp only [go_sem,seval,c14,wh2,h3,wh5,h6,h7,wh9,wh11,wh13,wh15,h16,wh18,wh20,h21,h22]
        exact ⟨_,rfl⟩
       obtain ⟨hh,this⟩:=this
       exact jj rfl this (by first | rfl | simp only [go_sem,seval]) (by first | rfl | simp only [go_sem,seval])
     ·have hr:false=r:=Option.some.inj h
      subst hr
      have this:∃ hh,ja prV (X prV) 14 [sl 8 qn a0,.str a1] []=some (.bool false,false,hh):=by
       rw [ql (show prV.fns 14=some c14 from rfl) (by simp)]
       simp only [go_sem,seval,c14,wh2,h3,wh5,h6,h7,wh9,wh11,wh13,wh15,h16,wh18,wh20,h21]
       exact ⟨_,rfl⟩
      obtain ⟨hh,this⟩:=this
      exact jj rfl this (by first | rfl | simp only [go_sem,seval]) (by first | rfl | simp only [go_sem,seval])
    ·obtain ⟨v29,h30,h⟩:=qb h
     have wh30:qd prV (X prV) 95 [.str a1]=some (.tup [sl 8 qn v29.1,.int .i64 v29.2.1,.int .i64 v29.2.2],false):=U95 h30
     rcases qa h with ⟨h31,h⟩ | ⟨h31,h⟩
     ·rcases qa h with ⟨h32,h⟩ | ⟨h32,h⟩
      ·obtain ⟨v33,h34,h⟩:=qb h
       have wh34:qd prV (X prV) 75 [sl 8 qn v12.1]=some (sl 8 qn v33.1,v33.2):=U75 h34
       obtain ⟨v35,h36,h⟩:=qb h
       have wh36:qd prV (X prV) 74 [sl 8 qn v33.1,sl 8 qn v29.1]=some (.bool v35,false):=U74 h36
       rcases qa h with ⟨h37,h⟩ | ⟨h37,h⟩
       ·rcases qa h with ⟨h38,h⟩ | ⟨h38,h⟩
        ·have hr:decide (v12.2.2=v29.2.2)=r:=Option.some.inj h
         subst hr
         have this:∃ hh,ja prV (X prV) 14 [sl 8 qn a0,.str a1] []=some (.bool (decide (v12.2.2=v29.2.2)),false,hh):=by
          rw [ql (show prV.fns 14=some c14 from rfl) (by simp)]
          simp only [go_sem,seval,c14,wh2,h3,wh5,h6,h7,wh9,wh11,wh13,wh15,h16,wh30,h31,h32,wh34,wh36,h37,h38]
          exact ⟨_,rfl⟩
         obtain ⟨hh,this⟩:=this
         exact jj rfl this (by first | rfl | simp only [go_sem,seval]) (by first | rfl | simp only [go_sem,seval])
        ·have hr:false=r:=Option.some.inj h
         subst hr
         have this:∃ hh,ja prV (X prV) 14 [sl 8 qn a0,.str a1] []=some (.bool false,false,hh):=by
          rw [ql (show prV.fns 14=some c14 from rfl) (by simp)]
          simp only [go_sem,seval,c14,wh2,h3,wh5,h6,h7,wh9,wh11,wh13,wh15,h16,wh30,h31,h32,wh34,wh36,h37,h38]
          exact ⟨_,rfl⟩
         obtain ⟨hh,this⟩:=this
         exact jj rfl this (by first | rfl | simp only [go_sem,seval]) (by first | rfl | simp only [go_sem,seval])
       ·have hr:false=r:=Option.some.inj h
        subst hr
        have this:∃ hh,ja prV (X prV) 14 [sl 8 qn a0,.str a1] []=some (.bool false,false,hh):=by
         rw [ql (show prV.fns 14=some c14 from rfl) (by simp)]
         simp only [go_sem,seval,c14,wh2,h3,wh5,h6,h7,wh9,wh11,wh13,wh15,h16,wh30,h31,h32,wh34,wh36,h37]
         exact ⟨_,rfl⟩
        obtain ⟨hh,this⟩:=this
        exact jj rfl this (by first | rfl | simp only [go_sem,seval]) (by first | rfl | simp only [go_sem,seval])
      ·have hr:false=r:=Option.some.inj h
       subst hr
       have this:∃ hh,ja prV (X prV) 14 [sl 8 qn a0,.str a1] []=some (.bool false,false,hh):=by
        rw [ql (show prV.fns 14=some c14 from rfl) (by simp)]
        simp only [go_sem,seval,c14,wh2,h3,wh5,h6,h7,wh9,wh11,wh13,wh15,h16,wh30,h31,h32]
        exact ⟨_,rfl⟩
       obtain ⟨hh,this⟩:=this
       exact jj rfl this (by first | rfl | simp only [go_sem,seval]) (by first | rfl | simp only [go_sem,seval])
     ·have hr:false=r:=Option.some.inj h
      subst hr
      have this:∃ hh,ja prV (X prV) 14 [sl 8 qn a0,.str a1] []=some (.bool false,false,hh):=by
       rw [ql (show prV.fns 14=some c14 from rfl) (by simp)]
       simp only [go_sem,seval,c14,wh2,h3,wh5,h6,h7,wh9,wh11,wh13,wh15,h16,wh30,h31]
       exact ⟨_,rfl⟩
      obtain ⟨hh,this⟩:=this
      exact jj rfl this (by first | rfl | simp only [go_sem,seval]) (by first | rfl | simp only [go_sem,seval])
  ·have hr:v1=r:=Option.some.inj h
   subst hr
   have this:∃ hh,ja prV (X prV) 14 [sl 8 qn a0,.str a1] []=some (.bool v1,false,hh):=by
    rw [ql (show prV.fns 14=some c14 from rfl) (by simp)]
    simp only [go_sem,seval,c14,wh2,h3,wh5,h6]
    exact ⟨_,rfl⟩
   obtain ⟨hh,this⟩:=this
   exact jj rfl this (by first | rfl | simp only [go_sem,seval]) (by first | rfl | simp only [go_sem,seval])
 ·have hr:v1=r:=Option.some.inj h
  subst hr
  have this:∃ hh,ja prV (X prV) 14 [sl 8 qn a0,.str a1] []=some (.bool v1,false,hh):=by
   rw [ql (show prV.fns 14=some c14 from rfl) (by simp)]
   simp only [go_sem,seval,c14,wh2,h3]
   exact ⟨_,rfl⟩
  obtain ⟨hh,this⟩:=this
  exact jj rfl this (by first | rfl | simp only [go_sem,seval]) (by first | rfl | simp only [go_sem,seval])
end Go.Z
