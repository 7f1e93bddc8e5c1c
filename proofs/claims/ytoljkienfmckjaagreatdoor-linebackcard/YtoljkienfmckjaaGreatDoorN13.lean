/-
  LineTexts: the laws: functions that mirror the runs, and the runs (printed by walk.py; seat .ZD).
-/
import Derived.Test.YtoljkienfmckjaaGreatDoorN12
import Derived.Test.YtoljkienfmckjaaGreatDoorR1
import Derived.Test.YtoljkienfmckjaaGreatDoorG0m
import Derived.Test.YtoljkienfmckjaaGreatDoorN0
set_option linter.unusedVariables false
set_option linter.unusedSimpArgs false
set_option maxRecDepth 100000
set_option maxHeartbeats 4000000
namespace Go.Z
open Go Go.Abs
noncomputable def f4 (a0:Option (List GUnit)) (a1:List UInt8):Option Bool:=
 obind (E5) fun v1=>
 cond v1
  (cond (decide (10 < ((a0.getD []).length:Int)))
   (some v1)
   (obind (E10w a0) fun v5=>
   cond (decide (v5=0))
    (cond (decide (300 < (a1.length:Int)))
     (some v1)
     (obind (E8 a0) fun v9=>
     obind (f7 v9) fun v11=>
     obind (f9 v11.1) fun v13=>
     cond (decide (v11.2=0))
      (cond (decide (v13.2.2=0))
       (cond (decide (v13.2.1=0))
        (obind (f14 v13.1) fun v18=>
        obind (f13 v18.1 a0) fun v20=>
        cond v20
         (obind (f15 v11.1 10) fun v23=>
         cond (decide (((v23.getD []).length:Int)=(wrapF .i64 (((a0.getD []).length:Int) + 1))))
          (obind (f9 a1) fun v26=>
          cond (decide (v26.2.2=0))
           (obind (f7 v26.1) fun v29=>
           cond (decide (v29.2=0))
            (cond (decide (v29.1=a1))
             (cond (decide (v11.1=[]))
              (some (decide (((a0.getD []).length:Int)=0)))
              (obind (cutO v11.1 none (some (wrapF .i64 ((v11.1.length:Int) - 1)))) fun v34=>
              obind (f9 v34) fun v36=>
              cond (decide (v36.2.2=26))
               (some (decide (v36.2.1=(wrapF .i64 (((a0.getD []).length:Int) - 1)))))
               (some false)))
             (some false))
            (some false))
           (cond (decide (v11.1=[]))
            (some (decide (((a0.getD []).length:Int)=0)))
            (obind (cutO v11.1 none (some (wrapF .i64 ((v11.1.length:Int) - 1)))) fun v40=>
            obind (f9 v40) fun v42=>
            cond (decide (v42.2.2=26))
             (some (decide (v42.2.1=(wrapF .i64 (((a0.getD []).length:Int) - 1)))))
             (some false))))
          (some false))
         (some false))
        (some false))
       (some false))
      (some false)))
    (some v1)))
  (some v1)
theorem W4 {a0:Option (List GUnit)} {a1:List UInt8} {r} (h:f4 a0 a1=some r):callIso prE (X prE) 4 [sl 2 vunit a0,.str a1]=some (.bool r,false):=by
 unfold f4 at h
 obtain ⟨v1,h2,h⟩:=obind_some h
 have wh2:callIso prE (X prE) 5 []=some (.bool v1,false):=Q5 h2
 rcases cond_split h with ⟨h3,h⟩ | ⟨h3,h⟩
 ·rcases cond_split h with ⟨h4,h⟩ | ⟨h4,h⟩
  ·have hr:v1=r:=Option.some.inj h
   subst hr
   have this:∃ hh,callFn prE (X prE) 4 [sl 2 vunit a0,.str a1] []=some (.bool v1,false,hh):=by
    rw [callFn_at (show prE.fns 4=some c4 from rfl) (by simp)]
    simp only [go_sem,seval,c4,wh2,h3,h4]
    exact ⟨_,rfl⟩
   obtain ⟨hh,this⟩:=this
   exact callIso_of rfl this (by first | rfl | simp only [go_sem,seval]) (by first | rfl | simp only [go_sem,seval])
  ·obtain ⟨v5,h6,h⟩:=obind_some h
   have wh6:callIso prE (X prE) 10 [sl 2 vunit a0]=some (.int .i64 v5,false):=Q10 h6
   rcases cond_split h with ⟨h7,h⟩ | ⟨h7,h⟩
   ·rcases cond_split h with ⟨h8,h⟩ | ⟨h8,h⟩
    ·have hr:v1=r:=Option.some.inj h
     subst hr
     have this:∃ hh,callFn prE (X prE) 4 [sl 2 vunit a0,.str a1] []=some (.bool v1,false,hh):=by
      rw [callFn_at (show prE.fns 4=some c4 from rfl) (by simp)]
      simp only [go_sem,seval,c4,wh2,h3,h4,wh6,h7,h8]
      exact ⟨_,rfl⟩
     obtain ⟨hh,this⟩:=this
     exact callIso_of rfl this (by first | rfl | simp only [go_sem,seval]) (by first | rfl | simp only [go_sem,seval])
    ·obtain ⟨v9,h10,h⟩:=obind_some h
     have wh10:callIso prE (X prE) 8 [sl 2 vunit a0]=some (sl 2 vunit v9,(accO (a0.getD []))):=Q8 h10
     obtain ⟨v11,h12,h⟩:=obind_some h
     have wh12:callIso prE (X prE) 7 [sl 2 vunit v9]=some (.tup [.str v11.1,.int .i64 v11.2],false):=W7 h12
     obtain ⟨v13,h14,h⟩:=obind_some h
     have wh14:callIso prE (X prE) 9 [.str v11.1]=some (.tup [sl 2 vunit v13.1,.int .i64 v13.2.1,.int .i64 v13.2.2],false):=Q9 h14
     rcases cond_split h with ⟨h15,h⟩ | ⟨h15,h⟩
     ·rcases cond_split h with ⟨h16,h⟩ | ⟨h16,h⟩
      ·rcases cond_split h with ⟨h17,h⟩ | ⟨h17,h⟩
       ·obtain ⟨v18,h19,h⟩:=obind_some h
        have wh19:callIso prE (X prE) 14 [sl 2 vunit v13.1]=some (sl 2 vunit v18.1,v18.2):=Q14 h19
        obtain ⟨v20,h21,h⟩:=obind_some h
        have wh21:callIso prE (X prE) 13 [sl 2 vunit v18.1,sl 2 vunit a0]=some (.bool v20,false):=Q13 h21
        rcases cond_split h with ⟨h22,h⟩ | ⟨h22,h⟩
        ·obtain ⟨v23,h24,h⟩:=obind_some h
         have wh24:callIso prE (X prE) 15 [.str v11.1,.int .u8 10]=some (sl 1 vstr v23,true):=Q15 h24
         rcases cond_split h with ⟨h25,h⟩ | ⟨h25,h⟩
         ·obtain ⟨v26,h27,h⟩:=obind_some h
          have wh27:callIso prE (X prE) 9 [.str a1]=some (.tup [sl 2 vunit v26.1,.int .i64 v26.2.1,.int .i64 v26.2.2],false):=Q9 h27
          rcases cond_split h with ⟨h28,h⟩ | ⟨h28,h⟩
          ·obtain ⟨v29,h30,h⟩:=obind_some h
           have wh30:callIso prE (X prE) 7 [sl 2 vunit v26.1]=some (.tup [.str v29.1,.int .i64 v29.2],false):=W7 h30
           rcases cond_split h with ⟨h31,h⟩ | ⟨h31,h⟩
           ·rcases cond_split h with ⟨h32,h⟩ | ⟨h32,h⟩
            ·rcases cond_split h with ⟨h33,h⟩ | ⟨h33,h⟩
             ·have hr:decide (((a0.getD []).length:Int)=0)=r:=Option.some.inj h
              subst hr
              have this:∃ hh,callFn prE (X prE) 4 [sl 2 vunit a0,.str a1] []=some (.bool (decide (((a0.getD []).length:Int)=0)),false,hh):=by
               rw [callFn_at (show prE.fns 4=some c4 from rfl) (by simp)]
               simp only [go_sem,seval,c4,wh2,h3,h4,wh6,h7,h8,wh10,wh12,wh14,h15,h16,h17,wh19,wh21,h22,wh24,h25,wh27,h28,wh30,h31,h32,h33]
               exact ⟨_,rfl⟩
              obtain ⟨hh,this⟩:=this
              exact callIso_of rfl this (by first | rfl | simp only [go_sem,seval]) (by first | rfl | simp only [go_sem,seval])
             ·obtain ⟨v34,h35,h⟩:=obind_some h
              obtain ⟨v36,h37,h⟩:=obind_some h
              have wh37:callIso prE (X prE) 9 [.str v34]=some (.tup [sl 2 vunit v36.1,.int .i64 v36.2.1,.int .i64 v36.2.2],false):=Q9 h37
              rcases cond_split h with ⟨h38,h⟩ | ⟨h38,h⟩
              ·have hr:decide (v36.2.1=(wrapF .i64 (((a0.getD []).length:Int) - 1)))=r:=Option.some.inj h
               subst hr
               have this:∃ hh,callFn prE (X prE) 4 [sl 2 vunit a0,.str a1] []=some (.bool (decide (v36.2.1=(wrapF .i64 (((a0.getD []).length:Int) - 1)))),false,hh):=by
                rw [callFn_at (show prE.fns 4=some c4 from rfl) (by simp)]
                simp only [go_sem,seval,c4,wh2,h3,h4,wh6,h7,h8,wh10,wh12,wh14,h15,h16,h17,wh19,wh21,h22,wh24,h25,wh27,h28,wh30,h31,h32,h33,strCut_h h35,wh37,h38]
                exact ⟨_,rfl⟩
               obtain ⟨hh,this⟩:=this
               exact callIso_of rfl this (by first | rfl | simp only [go_sem,seval]) (by first | rfl | simp only [go_sem,seval])
              ·have hr:false=r:=Option.some.inj h
               subst hr
               have this:∃ hh,callFn prE (X prE) 4 [sl 2 vunit a0,.str a1] []=some (.bool false,false,hh):=by
                rw [callFn_at (show prE.fns 4=some c4 from rfl) (by simp)]
                simp only [go_sem,seval,c4,wh2,h3,h4,wh6,h7,h8,wh10,wh12,wh14,h15,h16,h17,wh19,wh21,h22,wh24,h25,wh27,h28,wh30,h31,h32,h33,strCut_h h35,wh37,h38]
                exact ⟨_,rfl⟩
               obtain ⟨hh,this⟩:=this
               exact callIso_of rfl this (by first | rfl | simp only [go_sem,seval]) (by first | rfl | simp only [go_sem,seval])
            ·have hr:false=r:=Option.some.inj h
             subst hr
             have this:∃ hh,callFn prE (X prE) 4 [sl 2 vunit a0,.str a1] []=some (.bool false,false,hh):=by
              rw [callFn_at (show prE.fns 4=some c4 from rfl) (by simp)]
              simp only [go_sem,seval,c4,wh2,h3,h4,wh6,h7,h8,wh10,wh12,wh14,h15,h16,h17,wh19,wh21,h22,wh24,h25,wh27,h28,wh30,h31,h32]
              exact ⟨_,rfl⟩
             obtain ⟨hh,this⟩:=this
             exact callIso_of rfl this (by first | rfl | simp only [go_sem,seval]) (by first | rfl | simp only [go_sem,seval])
           ·have hr:false=r:=Option.some.inj h
            subst hr
            have this:∃ hh,callFn prE (X prE) 4 [sl 2 vunit a0,.str a1] []=some (.bool false,false,hh):=by
             rw [callFn_at (show prE.fns 4=some c4 from rfl) (by simp)]
             simp only [go_sem,seval,c4,wh2,h3,h4,wh6,h7,h8,wh10,wh12,wh14,h15,h16,h17,wh19,wh21,h22,wh24,h25,wh27,h28,wh30,h31]
             exact ⟨_,rfl⟩
            obtain ⟨hh,this⟩:=this
            exact callIso_of rfl this (by first | rfl | simp only [go_sem,seval]) (by first | rfl | simp only [go_sem,seval])
          ·rcases cond_split h with ⟨h39,h⟩ | ⟨h39,h⟩
           ·have hr:decide (((a0.getD []).length:Int)=0)=r:=Option.some.inj h
            subst hr
            have this:∃ hh,callFn prE (X prE) 4 [sl 2 vunit a0,.str a1] []=some (.bool (decide (((a0.getD []).length:Int)=0)),false,hh):=by
             rw [callFn_at (show prE.fns 4=some c4 from rfl) (by simp)]
             simp only [go_sem,seval,c4,wh2,h3,h4,wh6,h7,h8,wh10,wh12,wh14,h15,h16,h17,wh19,wh21,h22,wh24,h25,wh27,h28,h39]
             exact ⟨_,rfl⟩
            obtain ⟨hh,this⟩:=this
            exact callIso_of rfl this (by first | rfl | simp only [go_sem,seval]) (by first | rfl | simp only [go_sem,seval])
           ·obtain ⟨v40,h41,h⟩:=obind_some h
            obtain ⟨v42,h43,h⟩:=obind_some h
            have wh43:callIso prE (X prE) 9 [.str v40]=some (.tup [sl 2 vunit v42.1,.int .i64 v42.2.1,.int .i64 v42.2.2],false):=Q9 h43
            rcases cond_split h with ⟨h44,h⟩ | ⟨h44,h⟩
            ·have hr:decide (v42.2.1=(wrapF .i64 (((a0.getD []).length:Int) - 1)))=r:=Option.some.inj h
             subst hr
             have this:∃ hh,callFn prE (X prE) 4 [sl 2 vunit a0,.str a1] []=some (.bool (decide (v42.2.1=(wrapF .i64 (((a0.getD []).length:Int) - 1)))),false,hh):=by
              rw [callFn_at (show prE.fns 4=some c4 from rfl) (by simp)]
              simp only [go_sem,seval,c4,wh2,h3,h4,wh6,h7,h8,wh10,wh12,wh14,h15,h16,h17,wh19,wh21,h22,wh24,h25,wh27,h28,h39,strCut_h h41,wh43,h44]
              exact ⟨_,rfl⟩
             obtain ⟨hh,this⟩:=this
             exact callIso_of rfl this (by first | rfl | simp only [go_sem,seval]) (by first | rfl | simp only [go_sem,seval])
            ·have hr:false=r:=Option.some.inj h
             subst hr
             have this:∃ hh,callFn prE (X prE) 4 [sl 2 vunit a0,.str a1] []=some (.bool false,false,hh):=by
              rw [callFn_at (show prE.fns 4=some c4 from rfl) (by simp)]
              simp only [go_sem,seval,c4,wh2,h3,h4,wh6,h7,h8,wh10,wh12,wh14,h15,h16,h17,wh19,wh21,h22,wh24,h25,wh27,h28,h39,strCut_h h41,wh43,h44]
              exact ⟨_,rfl⟩
             obtain ⟨hh,this⟩:=this
             exact callIso_of rfl this (by first | rfl | simp only [go_sem,seval]) (by first | rfl | simp only [go_sem,seval])
         ·have hr:false=r:=Option.some.inj h
          subst hr
          have this:∃ hh,callFn prE (X prE) 4 [sl 2 vunit a0,.str a1] []=some (.bool false,false,hh):=by
           rw [callFn_at (show prE.fns 4=some c4 from rfl) (by simp)]
           simp only [go_sem,seval,c4,wh2,h3,h4,wh6,h7,h8,wh10,wh12,wh14,h15,h16,h17,wh19,wh21,h22,wh24,h25]
           exact ⟨_,rfl⟩
          obtain ⟨hh,this⟩:=this
          exact callIso_of rfl this (by first | rfl | simp only [go_sem,seval]) (by first | rfl | simp only [go_sem,seval])
        ·have hr:false=r:=Option.some.inj h
         subst hr
         have this:∃ hh,callFn prE (X prE) 4 [sl 2 vunit a0,.str a1] []=some (.bool false,false,hh):=by
          rw [callFn_at (show prE.fns 4=some c4 from rfl) (by simp)]
          simp only [go_sem,seval,c4,wh2,h3,h4,wh6,h7,h8,wh10,wh12,wh14,h15,h16,h17,wh19,wh21,h22]
          exact ⟨_,rfl⟩
         obtain ⟨hh,this⟩:=this
         exact callIso_of rfl this (by first | rfl | simp only [go_sem,seval]) (by first | rfl | simp only [go_sem,seval])
       ·have hr:false=r:=Option.some.inj h
        subst hr
        have this:∃ hh,callFn prE (X prE) 4 [sl 2 vunit a0,.str a1] []=some (.bool false,false,hh):=by
         rw [callFn_at (show prE.fns 4=some c4 from rfl) (by simp)]
         simp only [go_sem,seval,c4,wh2,h3,h4,wh6,h7,h8,wh10,wh12,wh14,h15,h16,h17]
         exact ⟨_,rfl⟩
        obtain ⟨hh,this⟩:=this
        exact callIso_of rfl this (by first | rfl | simp only [go_sem,seval]) (by first | rfl | simp only [go_sem,seval])
      ·have hr:false=r:=Option.some.inj h
       subst hr
       have this:∃ hh,callFn prE (X prE) 4 [sl 2 vunit a0,.str a1] []=some (.bool false,false,hh):=by
        rw [callFn_at (show prE.fns 4=some c4 from rfl) (by simp)]
        simp only [go_sem,seval,c4,wh2,h3,h4,wh6,h7,h8,wh10,wh12,wh14,h15,h16]
        exact ⟨_,rfl⟩
       obtain ⟨hh,this⟩:=this
       exact callIso_of rfl this (by first | rfl | simp only [go_sem,seval]) (by first | rfl | simp only [go_sem,seval])
     ·have hr:false=r:=Option.some.inj h
      subst hr
      have this:∃ hh,callFn prE (X prE) 4 [sl 2 vunit a0,.str a1] []=some (.bool false,false,hh):=by
       rw [callFn_at (show prE.fns 4=some c4 from rfl) (by simp)]
       simp only [go_sem,seval,c4,wh2,h3,h4,wh6,h7,h8,wh10,wh12,wh14,h15]
       exact ⟨_,rfl⟩
      obtain ⟨hh,this⟩:=this
      exact callIso_of rfl this (by first | rfl | simp only [go_sem,seval]) (by first | rfl | simp only [go_sem,seval])
   ·have hr:v1=r:=Option.some.inj h
    subst hr
    have this:∃ hh,callFn prE (X prE) 4 [sl 2 vunit a0,.str a1] []=some (.bool v1,false,hh):=by
     rw [callFn_at (show prE.fns 4=some c4 from rfl) (by simp)]
     simp only [go_sem,seval,c4,wh2,h3,h4,wh6,h7]
     exact ⟨_,rfl⟩
    obtain ⟨hh,this⟩:=this
    exact callIso_of rfl this (by first | rfl | simp only [go_sem,seval]) (by first | rfl | simp only [go_sem,seval])
 ·have hr:v1=r:=Option.some.inj h
  subst hr
  have this:∃ hh,callFn prE (X prE) 4 [sl 2 vunit a0,.str a1] []=some (.bool v1,false,hh):=by
   rw [callFn_at (show prE.fns 4=some c4 from rfl) (by simp)]
   simp only [go_sem,seval,c4,wh2,h3]
   exact ⟨_,rfl⟩
  obtain ⟨hh,this⟩:=this
  exact callIso_of rfl this (by first | rfl | simp only [go_sem,seval]) (by first | rfl | simp only [go_sem,seval])
end Go.Z
