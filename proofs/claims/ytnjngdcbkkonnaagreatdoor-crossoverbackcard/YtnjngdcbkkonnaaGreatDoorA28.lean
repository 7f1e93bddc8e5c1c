/- Chapter 4. -/
import Derived.Test.YtnjngdcbkkonnaaGreatDoorA25
import Derived.Test.YtnjngdcbkkonnaaGreatDoorA27
import Derived.Test.YtnjngdcbkkonnaaGreatDoorA2
import Derived.Test.YtnjngdcbkkonnaaGreatDoorG0
import Derived.Test.YtnjngdcbkkonnaaGreatDoorAbsL
set_option linter.unusedVariables false
set_option linter.unusedSimpArgs false
set_option maxRecDepth 100000
set_option maxHeartbeats 4000000
namespace Go.Z
open Go Go.Abs
theorem U17 {a0:Option (List qg)} {r} (h:f17 a0=some r):qd prV (X prV) 17 [sl 8 qq a0]=some (.bool r,false):=atV rfl rfl (atZ rfl rfl (atE rfl rfl (W17 h) (by first | rfl | simp only [go_sem,seval])) (by first | rfl | simp only [go_sem,seval])) (by first | rfl | simp only [go_sem,seval])
theorem U24 {a0:Option (List qg)} {r} (h:f24 a0=some r):qd prV (X prV) 24 [sl 8 qq a0]=some (sl 8 qq r.1,r.2):=atV rfl rfl (atZ rfl rfl (atE rfl rfl (W24 h) (by first | rfl | simp only [go_sem,seval])) (by first | rfl | simp only [go_sem,seval])) (by first | rfl | simp only [go_sem,seval])
theorem U25 {a0:Option (List qg)} {r} (h:f25 a0=some r):qd prV (X prV) 25 [sl 8 qq a0]=some (.int .i64 r,false):=atV rfl rfl (atZ rfl rfl (atE rfl rfl (W25 h) (by first | rfl | simp only [go_sem,seval])) (by first | rfl | simp only [go_sem,seval])) (by first | rfl | simp only [go_sem,seval])
theorem U74 {a0:Option (List qg)} {a1:Option (List qg)} {r} (h:f74 a0 a1=some r):qd prV (X prV) 74 [sl 8 qq a0,sl 8 qq a1]=some (.bool r,false):=atV rfl rfl (atZ rfl rfl (atE rfl rfl (W74 h) (by first | rfl | simp only [go_sem,seval])) (by first | rfl | simp only [go_sem,seval])) (by first | rfl | simp only [go_sem,seval])
theorem U75 {a0:Option (List qg)} {r} (h:f75 a0=some r):qd prV (X prV) 75 [sl 8 qq a0]=some (sl 8 qq r.1,r.2):=atV rfl rfl (atZ rfl rfl (atE rfl rfl (W75 h) (by first | rfl | simp only [go_sem,seval])) (by first | rfl | simp only [go_sem,seval])) (by first | rfl | simp only [go_sem,seval])
theorem U96 {a0:List UInt8} {a1:Int} {r} (h:f96 a0 a1=some r):qd prV (X prV) 96 [.str a0,.int .u8 a1]=some (sl 1 zi r,true):=atV rfl rfl (atZ rfl rfl (atE rfl rfl (W96 h) (by first | rfl | simp only [go_sem,seval])) (by first | rfl | simp only [go_sem,seval])) (by first | rfl | simp only [go_sem,seval])
theorem U92 {a0:Option (List qg)} {r} (h:f92 a0=some r):qd prV (X prV) 92 [sl 8 qq a0]=some (.tup [.str r.1,.int .i64 r.2],false):=atV rfl rfl (atZ rfl rfl (W92 h) (by first | rfl | simp only [go_sem,seval])) (by first | rfl | simp only [go_sem,seval])
theorem U16 {r} (h:E16=some r):qd prV (X prV) 16 []=some (.bool r,false):=atV rfl rfl (Q16 h) rfl
noncomputable def f15 (a0:Option (List qg)) (a1:List UInt8):Option Bool:=
 qi (E16) fun v1=>
 cond v1
  (qi (f17 a0) fun v4=>
  cond v4
   (qi (f25 a0) fun v7=>
   cond (decide (v7=0))
    (cond (decide (300 < (a1.length:Int)))
     (some v1)
     (qi (f24 a0) fun v11=>
     qi (f92 v11.1) fun v13=>
     qi (f93 v13.1) fun v15=>
     cond (decide (v13.2=0))
      (cond (decide (v15.2.2=0))
       (cond (decide (v15.2.1=0))
        (qi (f75 v15.1) fun v20=>
        qi (f74 v20.1 a0) fun v22=>
        cond v22
         (qi (f96 v13.1 10) fun v25=>
         cond (decide (((v25.getD []).length:Int)=(qk .i64 (((a0.getD []).length:Int) + 1))))
          (qi (f93 a1) fun v28=>
          cond (decide (v28.2.2=0))
           (qi (f92 v28.1) fun v31=>
           cond (decide (v31.2=0))
            (cond (decide (v31.1=a1))
             (cond (decide (v13.1=[]))
              (some (decide (((a0.getD []).length:Int)=0)))
              (qi (kx v13.1 none (some (qk .i64 ((v13.1.length:Int) - 1)))) fun v36=>
              qi (f93 v36) fun v38=>
              cond (decide (v38.2.2=26))
               (some (decide (v38.2.1=(qk .i64 (((a0.getD []).length:Int) - 1)))))
               (some false)))
             (some false))
            (some false))
           (cond (decide (v13.1=[]))
            (some (decide (((a0.getD []).length:Int)=0)))
            (qi (kx v13.1 none (some (qk .i64 ((v13.1.length:Int) - 1)))) fun v42=>
            qi (f93 v42) fun v44=>
            cond (decide (v44.2.2=26))
             (some (decide (v44.2.1=(qk .i64 (((a0.getD []).length:Int) - 1)))))
             (some false))))
          (some false))
         (some false))
        (some false))
       (some false))
      (some false)))
    (some v1))
   (some v1))
  (some v1)
theorem W15 {a0:Option (List qg)} {a1:List UInt8} {r} (h:f15 a0 a1=some r):qd prV (X prV) 15 [sl 8 qq a0,.str a1]=some (.bool r,false):=by
 unfold f15 at h
 obtain ⟨v1,h2,h⟩:=qb h
 have wh2:qd prV (X prV) 16 []=some (.bool v1,false):=U16 h2
 rcases qa h with ⟨h3,h⟩ | ⟨h3,h⟩
 ·obtain ⟨v4,h5,h⟩:=qb h
  have wh5:qd prV (X prV) 17 [sl 8 qq a0]=some (.bool v4,false):=U17 h5
  rcases qa h with ⟨h6,h⟩ | ⟨h6,h⟩
  ·obtain ⟨v7,h8,h⟩:=qb h
   have wh8:qd prV (X prV) 25 [sl 8 qq a0]=some (.int .i64 v7,false):=U25 h8
   rcases qa h with ⟨h9,h⟩ | ⟨h9,h⟩
   ·rcases qa h with ⟨h10,h⟩ | ⟨h10,h⟩
    ·have hr:v1=r:=Option.some.inj h
     subst hr
     have this:∃ hh,jc prV (X prV) 15 [sl 8 qq a0,.str a1] []=some (.bool v1,false,hh):=by
      rw [qj (show prV.fns 15=some c15 from rfl) (by simp)]
      simp only [go_sem,seval,c15,wh2,h3,wh5,h6,wh8,h9,h10]
      exact ⟨_,rfl⟩
     obtain ⟨hh,this⟩:=this
     exact jt rfl this (by first | rfl | simp only [go_sem,seval]) (by first | rfl | simp only [go_sem,seval])
    ·obtain ⟨v11,h12,h⟩:=qb h
     have wh12:qd prV (X prV) 24 [sl 8 qq a0]=some (sl 8 qq v11.1,v11.2):=U24 h12
     obtain ⟨v13,h14,h⟩:=qb h
     have wh14:qd prV (X prV) 92 [sl 8 qq v11.1]=some (.tup [.str v13.1,.int .i64 v13.2],false):=U92 h14
     obtain ⟨v15,h16,h⟩:=qb h
     have wh16:qd prV (X prV) 93 [.str v13.1]=some (.tup [sl 8 qq v15.1,.int .i64 v15.2.1,.int .i64 v15.2.2],false):=W93 h16
     rcases qa h with ⟨h17,h⟩ | ⟨h17,h⟩
     ·rcases qa h with ⟨h18,h⟩ | ⟨h18,h⟩
      ·rcases qa h with ⟨h19,h⟩ | ⟨h19,h⟩
       ·obtain ⟨v20,h21,h⟩:=qb h
        have wh21:qd prV (X prV) 75 [sl 8 qq v15.1]=some (sl 8 qq v20.1,v20.2):=U75 h21
        obtain ⟨v22,h23,h⟩:=qb h
        have wh23:qd prV (X prV) 74 [sl 8 qq v20.1,sl 8 qq a0]=some (.bool v22,false):=U74 h23
        rcases qa h with ⟨h24,h⟩ | ⟨h24,h⟩
        ·obtain ⟨v25,h26,h⟩:=qb h
         have wh26:qd prV (X prV) 96 [.str v13.1,.int .u8 10]=some (sl 1 zi v25,true):=U96 h26
         rcases qa h with ⟨h27,h⟩ | ⟨h27,h⟩
         ·obtain ⟨v28,h29,h⟩:=qb h
          have wh29:qd prV (X prV) 93 [.str a1]=some (.tup [sl 8 qq v28.1,.int .i64 v28.2.1,.int .i64 v28.2.2],false):=W93 h29
          rcases qa h with ⟨h30,h⟩ | ⟨h30,h⟩
          ·obtain ⟨v31,h32,h⟩:=qb h
           have wh32:qd prV (X prV) 92 [sl 8 qq v28.1]=some (.tup [.str v31.1,.int .i64 v31.2],false):=U92 h32
           rcases qa h with ⟨h33,h⟩ | ⟨h33,h⟩
           ·rcases qa h with ⟨h34,h⟩ | ⟨h34,h⟩
            ·rcases qa h with ⟨h35,h⟩ | ⟨h35,h⟩
             ·have hr:decide (((a0.getD []).length:Int)=0)=r:=Option.some.inj h
              subst hr
              have this:∃ hh,jc prV (X prV) 15 [sl 8 qq a0,.str a1] []=some (.bool (decide (((a0.getD []).length:Int)=0)),false,hh):=by
               rw [qj (show prV.fns 15=some c15 from rfl) (by simp)]
               simp only [go_sem,seval,c15,wh2,h3,wh5,h6,wh8,h9,h10,wh12,wh14,wh16,h17,h18,h19,wh21,wh23,h24,wh26,h27,wh29,h30,wh32,h33,h34,h35]
               exact ⟨_,rfl⟩
              obtain ⟨hh,this⟩:=this
              exact jt rfl this (by first | rfl | simp only [go_sem,seval]) (by first | rfl | simp only [go_sem,seval])
             ·obtain ⟨v36,h37,h⟩:=qb h
              obtain ⟨v38,h39,h⟩:=qb h
              have wh39:qd prV (X prV) 93 [.str v36]=some (.tup [sl 8 qq v38.1,.int .i64 v38.2.1,.int .i64 v38.2.2],false):=W93 h39
              rcases qa h with ⟨h40,h⟩ | ⟨h40,h⟩
              ·have hr:decide (v38.2.1=(qk .i64 (((a0.getD []).length:Int) - 1)))=r:=Option.some.inj h
               subst hr
               have this:∃ hh,jc prV (X prV) 15 [sl 8 qq a0,.str a1] []=some (.bool (decide (v38.2.1=(qk .i64 (((a0.getD []).length:Int) - 1)))),false,hh):=by
                rw [qj (show prV.fns 15=some c15 from rfl) (by simp)]
                simp only [go_sem,seval,c15,wh2,h3,wh5,h6,wh8,h9,h10,wh12,wh14,wh16,h17,h18,h19,wh21,wh23,h24,wh26,h27,wh29,h30,wh32,h33,h34,h35,qdx h37,wh39,h40]
                exact ⟨_,rfl⟩
               obtain ⟨hh,this⟩:=this
               exact jt rfl this (by first | rfl | simp only [go_sem,seval]) (by first | rfl | simp only [go_sem,seval])
              ·have hr:false=r:=Option.some.inj h
               subst hr
               have this:∃ hh,jc prV (X prV) 15 [sl 8 qq a0,.str a1] []=some (.bool false,false,hh):=by
                rw [qj (show prV.fns 15=some c15 from rfl) (by simp)]
                simp only [go_sem,seval,c15,wh2,h3,wh5,h6,wh8,h9,h10,wh12,wh14,wh16,h17,h18,h19,wh21,wh23,h24,wh26,h27,wh29,h30,wh32,h33,h34,h35,qdx h37,wh39,h40]
                exact ⟨_,rfl⟩
               obtain ⟨hh,this⟩:=this
               exact jt rfl this (by first | rfl | simp only [go_sem,seval]) (by first | rfl | simp only [go_sem,seval])
            ·have hr:false=r:=Option.some.inj h
             subst hr
             have this:∃ hh,jc prV (X prV) 15 [sl 8 qq a0,.str a1] []=some (.bool false,false,hh):=by
              rw [qj (show prV.fns 15=some c15 from rfl) (by simp)]
              simp only [go_sem,seval,c15,wh2,h3,wh5,h6,wh8,h9,h10,wh12,wh14,wh16,h17,h18,h19,wh21,wh23,h24,wh26,h27,wh29,h30,wh32,h33,h34]
              exact ⟨_,rfl⟩
             obtain ⟨hh,this⟩:=this
             exact jt rfl this (by first | rfl | simp only [go_sem,seval]) (by first | rfl | simp only [go_sem,seval])
           ·have hr:false=r:=Option.some.inj h
            subst hr
            have this:∃ hh,jc prV (X prV) 15 [sl 8 qq a0,.str a1] []=some (.bool false,false,hh):=by
             rw [qj (show prV.fns 15=some c15 from rfl) (by simp)]
             simp only [go_sem,seval,c15,wh2,h3,wh5,h6,wh8,h9,h10,wh12,wh14,wh16,h17,h18,h19,wh21,wh23,h24,wh26,h27,wh29,h30,wh32,h33]
             exact ⟨_,rfl⟩
            obtain ⟨hh,this⟩:=this
            exact jt rfl this (by first | rfl | simp only [go_sem,seval]) (by first | rfl | simp only [go_sem,seval])
          ·rcases qa h with ⟨h41,h⟩ | ⟨h41,h⟩
           ·have hr:decide (((a0.getD []).length:Int)=0)=r:=Option.some.inj h
            subst hr
            have this:∃ hh,jc prV (X prV) 15 [sl 8 qq a0,.str a1] []=some (.bool (decide (((a0.getD []).length:Int)=0)),false,hh):=by
             rw [qj (show prV.fns 15=some c15 from rfl) (by simp)]
             simp only [go_sem,seval,c15,wh2,h3,wh5,h6,wh8,h9,h10,wh12,wh14,wh16,h17,h18,h19,wh21,wh23,h24,wh26,h27,wh29,h30,h41]
             exact ⟨_,rfl⟩
            obtain ⟨hh,this⟩:=this
            exact jt rfl this (by first | rfl | simp only [go_sem,seval]) (by first | rfl | simp only [go_sem,seval])
           ·obtain ⟨v42,h43,h⟩:=qb h
            obtain ⟨v44,h45,h⟩:=qb h
            have wh45:qd prV (X prV) 93 [.str v42]=some (.tup [sl 8 qq v44.1,.int .i64 v44.2.1,.int .i64 v44.2.2],false):=W93 h45
            rcases qa h with ⟨h46,h⟩ | ⟨h46,h⟩
            ·have hr:decide (v44.2.1=(qk .i64 (((a0.getD []).length:Int) - 1)))=r:=Option.some.inj h
             subst hr
             have this:∃ hh,jc prV (X prV) 15 [sl 8 qq a0,.str a1] []=some (.bool (decide (v44.2.1=(qk .i64 (((a0.getD []).length:Int) - 1)))),false,hh):=by
              rw [qj (show prV.fns 15=some c15 from rfl) (by simp)]
              simp only [go_sem,seval,c15,wh2,h3,wh5,h6,wh8,h9,h10,wh12,wh14,wh16,h17,h18,h19,wh21,wh23,h24,wh26,h27,wh29,h30,h41,qdx h43,wh45,h46]
              exact ⟨_,rfl⟩
             obtain ⟨hh,this⟩:=this
             exact jt rfl this (by first | rfl | simp only [go_sem,seval]) (by first | rfl | simp only [go_sem,seval])
            ·have hr:false=r:=Option.some.inj h
             subst hr
             have this:∃ hh,jc prV (X prV) 15 [sl 8 qq a0,.str a1] []=some (.bool false,false,hh):=by
              rw [qj (show prV.fns 15=some c15 from rfl) (by simp)]
              simp only [go_sem,seval,c15,wh2,h3,wh5,h6,wh8,h9,h10,wh12,wh14,wh16,h17,h18,h19,wh21,wh23,h24,wh26,h27,wh29,h30,h41,qdx h43,wh45,h46]
              exact ⟨_,rfl⟩
             obtain ⟨hh,this⟩:=this
             exact jt rfl this (by first | rfl | simp only [go_sem,seval]) (by first | rfl | simp only [go_sem,seval])
         ·have hr:false=r:=Option.some.inj h
          subst hr
          have this:∃ hh,jc prV (X prV) 15 [sl 8 qq a0,.str a1] []=some (.bool false,false,hh):=by
           rw [qj (show prV.fns 15=some c15 from rfl) (by simp)]
           simp only [go_sem,seval,c15,wh2,h3,wh5,h6,wh8,h9,h10,wh12,wh14,wh16,h17,h18,h19,wh21,wh23,h24,wh26,h27]
           exact ⟨_,rfl⟩
          obtain ⟨hh,this⟩:=this
          exact jt rfl this (by first | rfl | simp only [go_sem,seval]) (by first | rfl | simp only [go_sem,seval])
        ·have hr:false=r:=Option.some.inj h
         subst hr
         have this:∃ hh,jc prV (X prV) 15 [sl 8 qq a0,.str a1] []=some (.bool false,false,hh):=by
          rw [qj (show prV.fns 15=some c15 from rfl) (by simp)]
          simp only [go_sem,seval,c15,wh2,h3,wh5,h6,wh8,h9,h10,wh12,wh14,wh16,h17,h18,h19,wh21,wh23,h24]
          exact ⟨_,rfl⟩
         obtain ⟨hh,this⟩:=this
         exact jt rfl this (by first | rfl | simp only [go_sem,seval]) (by first | rfl | simp only [go_sem,seval])
       ·have hr:false=r:=Option.some.inj h
        subst hr
        have this:∃ hh,jc prV (X prV) 15 [sl 8 qq a0,.str a1] []=some (.bool false,false,hh):=by
         rw [qj (show prV.fns 15=some c15 from rfl) (by simp)]
         simp only [go_sem,seval,c15,wh2,h3,wh5,h6,wh8,h9,h10,wh12,wh14,wh16,h17,h18,h19]
         exact ⟨_,rfl⟩
        obtain ⟨hh,this⟩:=this
        exact jt rfl this (by first | rfl | simp only [go_sem,seval]) (by first | rfl | simp only [go_sem,seval])
      ·have hr:false=r:=Option.some.inj h
       subst hr
       have this:∃ hh,jc prV (X prV) 15 [sl 8 qq a0,.str a1] []=some (.bool false,false,hh):=by
        rw [qj (show prV.fns 15=some c15 from rfl) (by simp)]
        simp only [go_sem,seval,c15,wh2,h3,wh5,h6,wh8,h9,h10,wh12,wh14,wh16,h17,h18]
        exact ⟨_,rfl⟩
       obtain ⟨hh,this⟩:=this
       exact jt rfl this (by first | rfl | simp only [go_sem,seval]) (by first | rfl | simp only [go_sem,seval])
     ·have hr:false=r:=Option.some.inj h
      subst hr
      have this:∃ hh,jc prV (X prV) 15 [sl 8 qq a0,.str a1] []=some (.bool false,false,hh):=by
       rw [qj (show prV.fns 15=some c15 from rfl) (by simp)]
       simp only [go_sem,seval,c15,wh2,h3,wh5,h6,wh8,h9,h10,wh12,wh14,wh16,h17]
       exact ⟨_,rfl⟩
      obtain ⟨hh,this⟩:=this
      exact jt rfl this (by first | rfl | simp only [go_sem,seval]) (by first | rfl | simp only [go_sem,seval])
   ·have hr:v1=r:=Option.some.inj h
    subst hr
    have this:∃ hh,jc prV (X prV) 15 [sl 8 qq a0,.str a1] []=some (.bool v1,false,hh):=by
     rw [qj (show prV.fns 15=some c15 from rfl) (by simp)]
     simp only [go_sem,seval,c15,wh2,h3,wh5,h6,wh8,h9]
     exact ⟨_,rfl⟩
    obtain ⟨hh,this⟩:=this
    exact jt rfl this (by first | rfl | simp only [go_sem,seval]) (by first | rfl | simp only [go_sem,seval])
  ·have hr:v1=r:=Option.some.inj h
   subst hr
   have this:∃ hh,jc prV (X prV) 15 [sl 8 qq a0,.str a1] []=some (.bool v1,false,hh):=by
    rw [qj (show prV.fns 15=some c15 from rfl) (by simp)]
    simp only [go_sem,seval,c15,wh2,h3,wh5,h6]
    exact ⟨_,rfl⟩
   obtain ⟨hh,this⟩:=this
   exact jt rfl this (by first | rfl | simp only [go_sem,seval]) (by first | rfl | simp only [go_sem,seval])
 ·have hr:v1=r:=Option.some.inj h
  subst hr
  have this:∃ hh,jc prV (X prV) 15 [sl 8 qq a0,.str a1] []=some (.bool v1,false,hh):=by
   rw [qj (show prV.fns 15=some c15 from rfl) (by simp)]
   simp only [go_sem,seval,c15,wh2,h3]
   exact ⟨_,rfl⟩
  obtain ⟨hh,this⟩:=this
  exact jt rfl this (by first | rfl | simp only [go_sem,seval]) (by first | rfl | simp only [go_sem,seval])
end Go.Z
