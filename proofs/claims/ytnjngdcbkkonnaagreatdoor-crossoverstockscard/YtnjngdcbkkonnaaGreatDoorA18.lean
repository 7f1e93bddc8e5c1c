/-
  Chapter 4: the law CrossoverStocks: functions that mirror the runs, and the runs (printed by walk.py).
-/
import Derived.Test.YtnjngdcbkkonnaaGreatDoorLZ
import Derived.Test.YtnjngdcbkkonnaaGreatDoorA17
import Derived.Test.YtnjngdcbkkonnaaGreatDoorA8
set_option linter.unusedVariables false
set_option linter.unusedSimpArgs false
set_option maxRecDepth 100000
set_option maxHeartbeats 4000000
namespace Go.Z
open Go Go.Abs
theorem Y17 {a0:Option (List qc)} {r} (h:f17 a0=some r):qd prY (X prY) 17 [sl 8 qg a0]=some (.bool r,false):=atY rfl rfl (atT rfl rfl (W17 h) (by first | rfl | simp only [go_sem,seval])) (by first | rfl | simp only [go_sem,seval])
theorem Y24 {a0:Option (List qc)} {r} (h:f24 a0=some r):qd prY (X prY) 24 [sl 8 qg a0]=some (sl 8 qg r.1,r.2):=atY rfl rfl (atT rfl rfl (W24 h) (by first | rfl | simp only [go_sem,seval])) (by first | rfl | simp only [go_sem,seval])
theorem Y25 {a0:Option (List qc)} {r} (h:f25 a0=some r):qd prY (X prY) 25 [sl 8 qg a0]=some (.int .i64 r,false):=atY rfl rfl (atT rfl rfl (W25 h) (by first | rfl | simp only [go_sem,seval])) (by first | rfl | simp only [go_sem,seval])
theorem Y30 {a0:Option (List Int)} {r} (h:f30 a0=some r):qd prY (X prY) 30 [sl 1 qp a0]=some (sl 1 qp r,true):=atY rfl rfl (atT rfl rfl (W30 h) (by first | rfl | simp only [go_sem,seval])) (by first | rfl | simp only [go_sem,seval])
theorem Y32 {a0:Option (List Int)} {r} (h:f32 a0=some r):qd prY (X prY) 32 [sl 1 qp a0]=some (.int .i64 r,false):=atY rfl rfl (atT rfl rfl (W32 h) (by first | rfl | simp only [go_sem,seval])) (by first | rfl | simp only [go_sem,seval])
theorem Y33 {a0:Option (List qc)} {a1:Option (List Int)} {r} (h:f33 a0 a1=some r):qd prY (X prY) 33 [sl 8 qg a0,sl 1 qp a1]=some (.int .i64 r,false):=atY rfl rfl (atT rfl rfl (W33 h) (by first | rfl | simp only [go_sem,seval])) (by first | rfl | simp only [go_sem,seval])
theorem Y42 {a0:Option (List Int)} {a1:Option (List Int)} {r} (h:f42 a0 a1=some r):qd prY (X prY) 42 [sl 1 qp a0,sl 1 qp a1]=some (.bool r,false):=atY rfl rfl (atT rfl rfl (W42 h) (by first | rfl | simp only [go_sem,seval])) (by first | rfl | simp only [go_sem,seval])
theorem Y43 {a0:Int} {a1:Int} {a2:Int} {a3:Int} {r} (h:f43 a0 a1 a2 a3=some r):qd prY (X prY) 43 [.int .i64 a0,.int .i64 a1,.int .i64 a2,.int .i64 a3]=some (.bool r,false):=atY rfl rfl (atT rfl rfl (W43 h) (by first | rfl | simp only [go_sem,seval])) (by first | rfl | simp only [go_sem,seval])
theorem Y67 {a0:Option (List qc)} {a1:Option (List Int)} {r} (h:f67 a0 a1=some r):qd prY (X prY) 67 [sl 8 qg a0,sl 1 qp a1]=some (.tup [.int .i64 r.1,.int .i64 r.2],false):=atY rfl rfl (atT rfl rfl (W67 h) (by first | rfl | simp only [go_sem,seval])) (by first | rfl | simp only [go_sem,seval])
theorem Y70 {a0:Option (List qc)} {r} (h:f70 a0=some r):qd prY (X prY) 70 [sl 8 qg a0]=some (.tup [sl 1 qp r.1,.int .i64 r.2],false):=atY rfl rfl (atT rfl rfl (W70 h) (by first | rfl | simp only [go_sem,seval])) (by first | rfl | simp only [go_sem,seval])
theorem Y71 {a0:Option (List qc)} {a1:Option (List Int)} {r} (h:f71 a0 a1=some r):qd prY (X prY) 71 [sl 8 qg a0,sl 1 qp a1]=some (.int .i64 r,false):=atY rfl rfl (atT rfl rfl (W71 h) (by first | rfl | simp only [go_sem,seval])) (by first | rfl | simp only [go_sem,seval])
theorem Y73 {a0:Option (List qc)} {r} (h:f73 a0=some r):qd prY (X prY) 73 [sl 8 qg a0]=some (sl 1 qp r.1,r.2):=atY rfl rfl (atT rfl rfl (W73 h) (by first | rfl | simp only [go_sem,seval])) (by first | rfl | simp only [go_sem,seval])
theorem Y74 {a0:Option (List qc)} {a1:Option (List qc)} {r} (h:f74 a0 a1=some r):qd prY (X prY) 74 [sl 8 qg a0,sl 8 qg a1]=some (.bool r,false):=atY rfl rfl (atT rfl rfl (W74 h) (by first | rfl | simp only [go_sem,seval])) (by first | rfl | simp only [go_sem,seval])
theorem Y75 {a0:Option (List qc)} {r} (h:f75 a0=some r):qd prY (X prY) 75 [sl 8 qg a0]=some (sl 8 qg r.1,r.2):=atY rfl rfl (atT rfl rfl (W75 h) (by first | rfl | simp only [go_sem,seval])) (by first | rfl | simp only [go_sem,seval])
theorem Y68 {a0:Option (List qc)} {a1:Option (List Int)} {r} (h:f68 a0 a1=some r):qd prY (X prY) 68 [sl 8 qg a0,sl 1 qp a1]=some (.tup [.bool r.1,.int .i64 r.2],false):=atY rfl rfl (W68 h) (by first | rfl | simp only [go_sem,seval])
theorem Y69 {a0:Option (List qc)} {a1:Option (List Int)} {r} (h:f69 a0 a1=some r):qd prY (X prY) 69 [sl 8 qg a0,sl 1 qp a1]=some (.tup [sl 8 qg r.1,.int .i64 r.2],false):=atY rfl rfl (W69 h) (by first | rfl | simp only [go_sem,seval])
theorem Y72 {a0:Option (List qc)} {a1:Option (List Int)} {r} (h:f72 a0 a1=some r):qd prY (X prY) 72 [sl 8 qg a0,sl 1 qp a1]=some (.tup [sl 8 qg r.1,.bool r.2],false):=atY rfl rfl (W72 h) (by first | rfl | simp only [go_sem,seval])
noncomputable def f9 (a0:Option (List qc)) (a1:Option (List Int)):Option Bool:=
 qh (E16) fun v1=>
 cond v1
  (qh (f17 a0) fun v4=>
  cond v4
   (cond (decide (5 < ((a1.getD []).length:Int)))
    (some v1)
    (qh (f24 a0) fun v8=>
    qh (f30 a1) fun v10=>
    qh (f67 v8.1 v10) fun v12=>
    qh (f68 v8.1 v10) fun v14=>
    qh (f69 v8.1 v10) fun v16=>
    qh (f70 v8.1) fun v18=>
    qh (f25 a0) fun v20=>
    qh (f33 a0 a1) fun v22=>
    qh (f32 (some [v20,v22])) fun v24=>
    cond (decide (v24=0))
     (qh (f71 a0 a1) fun v27=>
     qh (f72 a0 a1) fun v29=>
     cond v29.2
      (cond (decide (v20=0))
       (qh (f73 a0) fun v33=>
       qh (f43 v12.1 v12.2 v24 v27) fun v35=>
       cond v35
        (cond (v14.1 == true)
         (cond (decide (v14.2=v24))
          (qh (f75 v16.1) fun v40=>
          qh (f74 v40.1 v29.1) fun v42=>
          cond v42
           (cond (decide (v16.2=v24))
            (qh (f42 v18.1 v33.1) fun v46=>
            cond v46
             (some (decide (v18.2=v20)))
             (some false))
            (some false))
           (some false))
          (some false))
         (some false))
        (some false))
       (qh (f43 v12.1 v12.2 v24 v27) fun v49=>
       cond v49
        (cond (v14.1 == true)
         (cond (decide (v14.2=v24))
          (qh (f75 v16.1) fun v54=>
          qh (f74 v54.1 v29.1) fun v56=>
          cond v56
           (cond (decide (v16.2=v24))
            (qh (f42 v18.1 none) fun v60=>
            cond v60
             (some (decide (v18.2=v20)))
             (some false))
            (some false))
           (some false))
          (some false))
         (some false))
        (some false)))
      (cond (decide (v20=0))
       (qh (f73 a0) fun v64=>
       qh (f43 v12.1 v12.2 v24 v27) fun v66=>
       cond v66
        (cond (v14.1 == false)
         (cond (decide (v14.2=v24))
          (qh (f75 v16.1) fun v71=>
          qh (f74 v71.1 v29.1) fun v73=>
          cond v73
           (cond (decide (v16.2=7))
            (qh (f42 v18.1 v64.1) fun v77=>
            cond v77
             (some (decide (v18.2=v20)))
             (some false))
            (some false))
           (some false))
          (some false))
         (some false))
        (some false))
       (qh (f43 v12.1 v12.2 v24 v27) fun v80=>
       cond v80
        (cond (v14.1 == false)
         (cond (decide (v14.2=v24))
          (qh (f75 v16.1) fun v85=>
          qh (f74 v85.1 v29.1) fun v87=>
          cond v87
           (cond (decide (v16.2=7))
            (qh (f42 v18.1 none) fun v91=>
            cond v91
             (some (decide (v18.2=v20)))
             (some false))
            (some false))
           (some false))
          (some false))
         (some false))
        (some false))))
     (cond (decide (v20=0))
      (qh (f73 a0) fun v95=>
      qh (f43 v12.1 v12.2 v24 0) fun v97=>
      cond v97
       (cond (v14.1 == false)
        (cond (decide (v14.2=v24))
         (qh (f75 v16.1) fun v102=>
         qh (f74 v102.1 none) fun v104=>
         cond v104
          (cond (decide (v16.2=v24))
           (qh (f42 v18.1 v95.1) fun v108=>
           cond v108
            (some (decide (v18.2=v20)))
            (some false))
           (some false))
          (some false))
         (some false))
        (some false))
       (some false))
      (qh (f43 v12.1 v12.2 v24 0) fun v111=>
      cond v111
       (cond (v14.1 == false)
        (cond (decide (v14.2=v24))
         (qh (f75 v16.1) fun v116=>
         qh (f74 v116.1 none) fun v118=>
         cond v118
          (cond (decide (v16.2=v24))
           (qh (f42 v18.1 none) fun v122=>
           cond v122
            (some (decide (v18.2=v20)))
            (some false))
           (some false))
          (some false))
         (some false))
        (some false))
       (some false)))))
   (some v1))
  (some v1)
theorem W9 {a0:Option (List qc)} {a1:Option (List Int)} {r} (h:f9 a0 a1=some r):qd prY (X prY) 9 [sl 8 qg a0,sl 1 qp a1]=some (.bool r,false):=by
 unfold f9 at h
 obtain ⟨v1,h2,h⟩:=qb h
 rcases qa h with ⟨h3,h⟩ | ⟨h3,h⟩
 ·obtain ⟨v4,h5,h⟩:=qb h
  rcases qa h with ⟨h6,h⟩ | ⟨h6,h⟩
  ·rcases qa h with ⟨h7,h⟩ | ⟨h7,h⟩
   ·have hr:v1=r:=Option.some.inj h
    subst hr
    refine qu rfl ?_ (fun _=>by first | rfl | simp only [go_sem,seval]) (by first | rfl | simp only [go_sem,seval])
    rw [qf (show prY.fns 9=some c9 from rfl) (by simp)]
    simp only [go_sem,seval,c9,Y16 h2,h3,Y17 h5,h6,h7]
    exact ⟨_,rfl⟩
   ·obtain ⟨v8,h9,h⟩:=qb h
    obtain ⟨v10,h11,h⟩:=qb h
    obtain ⟨v12,h13,h⟩:=qb h
    have wh13:qd prY (X prY) 67 [sl 8 qg v8.1,sl 1 qp v10]=some (.tup [.int .i64 v12.1,.int .i64 v12.2],false):=Y67 h13
    obtain ⟨v14,h15,h⟩:=qb h
    have wh15:qd prY (X prY) 68 [sl 8 qg v8.1,sl 1 qp v10]=some (.tup [.bool v14.1,.int .i64 v14.2],false):=Y68 h15
    obtain ⟨v16,h17,h⟩:=qb h
    have wh17:qd prY (X prY) 69 [sl 8 qg v8.1,sl 1 qp v10]=some (.tup [sl 8 qg v16.1,.int .i64 v16.2],false):=Y69 h17
    obtain ⟨v18,h19,h⟩:=qb h
    have wh19:qd prY (X prY) 70 [sl 8 qg v8.1]=some (.tup [sl 1 qp v18.1,.int .i64 v18.2],false):=Y70 h19
    obtain ⟨v20,h21,h⟩:=qb h
    obtain ⟨v22,h23,h⟩:=qb h
    obtain ⟨v24,h25,h⟩:=qb h
    have wh25:qd prY (X prY) 32 [.list false 1 [.int .i64 v20,.int .i64 v22]]=some (.int .i64 v24,false):=Y32 h25
    rcases qa h with ⟨h26,h⟩ | ⟨h26,h⟩
    ·obtain ⟨v27,h28,h⟩:=qb h
     obtain ⟨v29,h30,h⟩:=qb h
     rcases qa h with ⟨h31,h⟩ | ⟨h31,h⟩
     ·rcases qa h with ⟨h32,h⟩ | ⟨h32,h⟩
      ·obtain ⟨v33,h34,h⟩:=qb h
       obtain ⟨v35,h36,h⟩:=qb h
       have wh36:qd prY (X prY) 43 [.int .i64 v12.1,.int .i64 v12.2,.int .i64 v24,.int .i64 v27]=some (.bool v35,false):=Y43 h36
       rcases qa h with ⟨h37,h⟩ | ⟨h37,h⟩
       ·rcases qa h with ⟨h38,h⟩ | ⟨h38,h⟩
        ·rcases qa h with ⟨h39,h⟩ | ⟨h39,h⟩
         ·obtain ⟨v40,h41,h⟩:=qb h
          have wh41:qd prY (X prY) 75 [sl 8 qg v16.1]=some (sl 8 qg v40.1,v40.2):=Y75 h41
          obtain ⟨v42,h43,h⟩:=qb h
          have wh43:qd prY (X prY) 74 [sl 8 qg v40.1,sl 8 qg v29.1]=some (.bool v42,false):=Y74 h43
          rcases qa h with ⟨h44,h⟩ | ⟨h44,h⟩
          ·rcases qa h with ⟨h45,h⟩ | ⟨h45,h⟩
           ·obtain ⟨v46,h47,h⟩:=qb h
            have wh47:qd prY (X prY) 42 [sl 1 qp v18.1,sl 1 qp v33.1]=some (.bool v46,false):=Y42 h47
            rcases qa h with ⟨h48,h⟩ | ⟨h48,h⟩
            ·have hr:decide (v18.2=v20)=r:=Option.some.inj h
             subst hr
             refine qu rfl ?_ (fun _=>by first | rfl | simp only [go_sem,seval]) (by first | rfl | simp only [go_sem,seval])
             rw [qf (show prY.fns 9=some c9 from rfl) (by simp)]
             simp only [go_sem,seval,c9,Y16 h2,h3,Y17 h5,h6,h7,Y24 h9,Y30 h11,wh13,wh15,wh17,wh19,Y25 h21,Y33 h23,wh25,h26,Y71 h28,Y72 h30,h31,h32,Y73 h34,wh36,h37,h38,h39,wh41,wh43,h44,h45,wh47,h48]
             exact ⟨_,rfl⟩
            ·have hr:false=r:=Option.some.inj h
             subst hr
             refine qu rfl ?_ (fun _=>by first | rfl | simp only [go_sem,seval]) (by first | rfl | simp only [go_sem,seval])
             rw [qf (show prY.fns 9=some c9 from rfl) (by simp)]
             simp only [go_sem,seval,c9,Y16 h2,h3,Y17 h5,h6,h7,Y24 h9,Y30 h11,wh13,wh15,wh17,wh19,Y25 h21,Y33 h23,wh25,h26,Y71 h28,Y72 h30,h31,h32,Y73 h34,wh36,h37,h38,h39,wh41,wh43,h44,h45,wh47,h48]
             exact ⟨_,rfl⟩
           ·have hr:false=r:=Option.some.inj h
            subst hr
            refine qu rfl ?_ (fun _=>by first | rfl | simp only [go_sem,seval]) (by first | rfl | simp only [go_sem,seval])
            rw [qf (show prY.fns 9=some c9 from rfl) (by simp)]
            simp only [go_sem,seval,c9,Y16 h2,h3,Y17 h5,h6,h7,Y24 h9,Y30 h11,wh13,wh15,wh17,wh19,Y25 h21,Y33 h23,wh25,h26,Y71 h28,Y72 h30,h31,h32,Y73 h34,wh36,h37,h38,h39,wh41,wh43,h44,h45]
            exact ⟨_,rfl⟩
          ·have hr:false=r:=Option.some.inj h
           subst hr
           refine qu rfl ?_ (fun _=>by first | rfl | simp only [go_sem,seval]) (by first | rfl | simp only [go_sem,seval])
           rw [qf (show prY.fns 9=some c9 from rfl) (by simp)]
           simp only [go_sem,seval,c9,Y16 h2,h3,Y17 h5,h6,h7,Y24 h9,Y30 h11,wh13,wh15,wh17,wh19,Y25 h21,Y33 h23,wh25,h26,Y71 h28,Y72 h30,h31,h32,Y73 h34,wh36,h37,h38,h39,wh41,wh43,h44]
           exact ⟨_,rfl⟩
         ·have hr:false=r:=Option.some.inj h
          subst hr
          refine qu rfl ?_ (fun _=>by first | rfl | simp only [go_sem,seval]) (by first | rfl | simp only [go_sem,seval])
          rw [qf (show prY.fns 9=some c9 from rfl) (by simp)]
          simp only [go_sem,seval,c9,Y16 h2,h3,Y17 h5,h6,h7,Y24 h9,Y30 h11,wh13,wh15,wh17,wh19,Y25 h21,Y33 h23,wh25,h26,Y71 h28,Y72 h30,h31,h32,Y73 h34,wh36,h37,h38,h39]
          exact ⟨_,rfl⟩
        ·have hr:false=r:=Option.some.inj h
         subst hr
         refine qu rfl ?_ (fun _=>by first | rfl | simp only [go_sem,seval]) (by first | rfl | simp only [go_sem,seval])
         rw [qf (show prY.fns 9=some c9 from rfl) (by simp)]
         simp only [go_sem,seval,c9,Y16 h2,h3,Y17 h5,h6,h7,Y24 h9,Y30 h11,wh13,wh15,wh17,wh19,Y25 h21,Y33 h23,wh25,h26,Y71 h28,Y72 h30,h31,h32,Y73 h34,wh36,h37,h38]
         exact ⟨_,rfl⟩
       ·have hr:false=r:=Option.some.inj h
        subst hr
        refine qu rfl ?_ (fun _=>by first | rfl | simp only [go_sem,seval]) (by first | rfl | simp only [go_sem,seval])
        rw [qf (show prY.fns 9=some c9 from rfl) (by simp)]
        simp only [go_sem,seval,c9,Y16 h2,h3,Y17 h5,h6,h7,Y24 h9,Y30 h11,wh13,wh15,wh17,wh19,Y25 h21,Y33 h23,wh25,h26,Y71 h28,Y72 h30,h31,h32,Y73 h34,wh36,h37]
        exact ⟨_,rfl⟩
      ·obtain ⟨v49,h50,h⟩:=qb h
       have wh50:qd prY (X prY) 43 [.int .i64 v12.1,.int .i64 v12.2,.int .i64 v24,.int .i64 v27]=some (.bool v49,false):=Y43 h50
       rcases qa h with ⟨h51,h⟩ | ⟨h51,h⟩
       ·rcases qa h with ⟨h52,h⟩ | ⟨h52,h⟩
        ·rcases qa h with ⟨h53,h⟩ | ⟨h53,h⟩
         ·obtain ⟨v54,h55,h⟩:=qb h
          have wh55:qd prY (X prY) 75 [sl 8 qg v16.1]=some (sl 8 qg v54.1,v54.2):=Y75 h55
          obtain ⟨v56,h57,h⟩:=qb h
          have wh57:qd prY (X prY) 74 [sl 8 qg v54.1,sl 8 qg v29.1]=some (.bool v56,false):=Y74 h57
          rcases qa h with ⟨h58,h⟩ | ⟨h58,h⟩
          ·rcases qa h with ⟨h59,h⟩ | ⟨h59,h⟩
           ·obtain ⟨v60,h61,h⟩:=qb h
            have wh61:qd prY (X prY) 42 [sl 1 qp v18.1,.list true 0 []]=some (.bool v60,false):=Y42 h61
            rcases qa h with ⟨h62,h⟩ | ⟨h62,h⟩
            ·have hr:decide (v18.2=v20)=r:=Option.some.inj h
             subst hr
             refine qu rfl ?_ (fun _=>by first | rfl | simp only [go_sem,seval]) (by first | rfl | simp only [go_sem,seval])
             rw [qf (show prY.fns 9=some c9 from rfl) (by simp)]
             simp only [go_sem,seval,c9,Y16 h2,h3,Y17 h5,h6,h7,Y24 h9,Y30 h11,wh13,wh15,wh17,wh19,Y25 h21,Y33 h23,wh25,h26,Y71 h28,Y72 h30,h31,h32,wh50,h51,h52,h53,wh55,wh57,h58,h59,wh61,h62]
             exact ⟨_,rfl⟩
            ·have hr:false=r:=Option.some.inj h
             subst hr
             refine qu rfl ?_ (fun _=>by first | rfl | simp only [go_sem,seval]) (by first | rfl | simp only [go_sem,seval])
             rw [qf (show prY.fns 9=some c9 from rfl) (by simp)]
             simp only [go_sem,seval,c9,Y16 h2,h3,Y17 h5,h6,h7,Y24 h9,Y30 h11,wh13,wh15,wh17,wh19,Y25 h21,Y33 h23,wh25,h26,Y71 h28,Y72 h30,h31,h32,wh50,h51,h52,h53,wh55,wh57,h58,h59,wh61,h62]
             exact ⟨_,rfl⟩
           ·have hr:false=r:=Option.some.inj h
            subst hr
            refine qu rfl ?_ (fun _=>by first | rfl | simp only [go_sem,seval]) (by first | rfl | simp only [go_sem,seval])
            rw [qf (show prY.fns 9=some c9 from rfl) (by simp)]
            simp only [go_sem,seval,c9,Y16 h2,h3,Y17 h5,h6,h7,Y24 h9,Y30 h11,wh13,wh15,wh17,wh19,Y25 h21,Y33 h23,wh25,h26,Y71 h28,Y72 h30,h31,h32,wh50,h51,h52,h53,wh55,wh57,h58,h59]
            exact ⟨_,rfl⟩
          ·have hr:false=r:=Option.some.inj h
           subst hr
           refine qu rfl ?_ (fun _=>by first | rfl | simp only [go_sem,seval]) (by first | rfl | simp only [go_sem,seval])
           rw [qf (show prY.fns 9=some c9 from rfl) (by simp)]
           simp only [go_sem,seval,c9,Y16 h2,h3,Y17 h5,h6,h7,Y24 h9,Y30 h11,wh13,wh15,wh17,wh19,Y25 h21,Y33 h23,wh25,h26,Y71 h28,Y72 h30,h31,h32,wh50,h51,h52,h53,wh55,wh57,h58]
           exact ⟨_,rfl⟩
         ·have hr:false=r:=Option.some.inj h
          subst hr
          refine qu rfl ?_ (fun _=>by first | rfl | simp only [go_sem,seval]) (by first | rfl | simp only [go_sem,seval])
          rw [qf (show prY.fns 9=some c9 from rfl) (by simp)]
          simp only [go_sem,seval,c9,Y16 h2,h3,Y17 h5,h6,h7,Y24 h9,Y30 h11,wh13,wh15,wh17,wh19,Y25 h21,Y33 h23,wh25,h26,Y71 h28,Y72 h30,h31,h32,wh50,h51,h52,h53]
          exact ⟨_,rfl⟩
        ·have hr:false=r:=Option.some.inj h
         subst hr
         refine qu rfl ?_ (fun _=>by first | rfl | simp only [go_sem,seval]) (by first | rfl | simp only [go_sem,seval])
         rw [qf (show prY.fns 9=some c9 from rfl) (by simp)]
         simp only [go_sem,seval,c9,Y16 h2,h3,Y17 h5,h6,h7,Y24 h9,Y30 h11,wh13,wh15,wh17,wh19,Y25 h21,Y33 h23,wh25,h26,Y71 h28,Y72 h30,h31,h32,wh50,h51,h52]
         exact ⟨_,rfl⟩
       ·have hr:false=r:=Option.some.inj h
        subst hr
        refine qu rfl ?_ (fun _=>by first | rfl | simp only [go_sem,seval]) (by first | rfl | simp only [go_sem,seval])
        rw [qf (show prY.fns 9=some c9 from rfl) (by simp)]
        simp only [go_sem,seval,c9,Y16 h2,h3,Y17 h5,h6,h7,Y24 h9,Y30 h11,wh13,wh15,wh17,wh19,Y25 h21,Y33 h23,wh25,h26,Y71 h28,Y72 h30,h31,h32,wh50,h51]
        exact ⟨_,rfl⟩
     ·rcases qa h with ⟨h63,h⟩ | ⟨h63,h⟩
      ·obtain ⟨v64,h65,h⟩:=qb h
       obtain ⟨v66,h67,h⟩:=qb h
       have wh67:qd prY (X prY) 43 [.int .i64 v12.1,.int .i64 v12.2,.int .i64 v24,.int .i64 v27]=some (.bool v66,false):=Y43 h67
       rcases qa h with ⟨h68,h⟩ | ⟨h68,h⟩
       ·rcases qa h with ⟨h69,h⟩ | ⟨h69,h⟩
        ·rcases qa h with ⟨h70,h⟩ | ⟨h70,h⟩
         ·obtain ⟨v71,h72,h⟩:=qb h
          have wh72:qd prY (X prY) 75 [sl 8 qg v16.1]=some (sl 8 qg v71.1,v71.2):=Y75 h72
          obtain ⟨v73,h74,h⟩:=qb h
          have wh74:qd prY (X prY) 74 [sl 8 qg v71.1,sl 8 qg v29.1]=some (.bool v73,false):=Y74 h74
          rcases qa h with ⟨h75,h⟩ | ⟨h75,h⟩
          ·rcases qa h with ⟨h76,h⟩ | ⟨h76,h⟩
           ·obtain ⟨v77,h78,h⟩:=qb h
            have wh78:qd prY (X prY) 42 [sl 1 qp v18.1,sl 1 qp v64.1]=some (.bool v77,false):=Y42 h78
            rcases qa h with ⟨h79,h⟩ | ⟨h79,h⟩
            ·have hr:decide (v18.2=v20)=r:=Option.some.inj h
             subst hr
             refine qu rfl ?_ (fun _=>by first | rfl | simp only [go_sem,seval]) (by first | rfl | simp only [go_sem,seval])
             rw [qf (show prY.fns 9=some c9 from rfl) (by simp)]
             simp only [go_sem,seval,c9,Y16 h2,h3,Y17 h5,h6,h7,Y24 h9,Y30 h11,wh13,wh15,wh17,wh19,Y25 h21,Y33 h23,wh25,h26,Y71 h28,Y72 h30,h31,h63,Y73 h65,wh67,h68,h69,h70,wh72,wh74,h75,h76,wh78,h79]
             exact ⟨_,rfl⟩
            ·have hr:false=r:=Option.some.inj h
             subst hr
             refine qu rfl ?_ (fun _=>by first | rfl | simp only [go_sem,seval]) (by first | rfl | simp only [go_sem,seval])
             rw [qf (show prY.fns 9=some c9 from rfl) (by simp)]
             simp only [go_sem,seval,c9,Y16 h2,h3,Y17 h5,h6,h7,Y24 h9,Y30 h11,wh13,wh15,wh17,wh19,Y25 h21,Y33 h23,wh25,h26,Y71 h28,Y72 h30,h31,h63,Y73 h65,wh67,h68,h69,h70,wh72,wh74,h75,h76,wh78,h79]
             exact ⟨_,rfl⟩
           ·have hr:false=r:=Option.some.inj h
            subst hr
            refine qu rfl ?_ (fun _=>by first | rfl | simp only [go_sem,seval]) (by first | rfl | simp only [go_sem,seval])
            rw [qf (show prY.fns 9=some c9 from rfl) (by simp)]
            simp only [go_sem,seval,c9,Y16 h2,h3,Y17 h5,h6,h7,Y24 h9,Y30 h11,wh13,wh15,wh17,wh19,Y25 h21,Y33 h23,wh25,h26,Y71 h28,Y72 h30,h31,h63,Y73 h65,wh67,h68,h69,h70,wh72,wh74,h75,h76]
            exact ⟨_,rfl⟩
          ·have hr:false=r:=Option.some.inj h
           subst hr
           refine qu rfl ?_ (fun _=>by first | rfl | simp only [go_sem,seval]) (by first | rfl | simp only [go_sem,seval])
           rw [qf (show prY.fns 9=some c9 from rfl) (by simp)]
           simp only [go_sem,seval,c9,Y16 h2,h3,Y17 h5,h6,h7,Y24 h9,Y30 h11,wh13,wh15,wh17,wh19,Y25 h21,Y33 h23,wh25,h26,Y71 h28,Y72 h30,h31,h63,Y73 h65,wh67,h68,h69,h70,wh72,wh74,h75]
           exact ⟨_,rfl⟩
         ·have hr:false=r:=Option.some.inj h
          subst hr
          refine qu rfl ?_ (fun _=>by first | rfl | simp only [go_sem,seval]) (by first | rfl | simp only [go_sem,seval])
          rw [qf (show prY.fns 9=some c9 from rfl) (by simp)]
          simp only [go_sem,seval,c9,Y16 h2,h3,Y17 h5,h6,h7,Y24 h9,Y30 h11,wh13,wh15,wh17,wh19,Y25 h21,Y33 h23,wh25,h26,Y71 h28,Y72 h30,h31,h63,Y73 h65,wh67,h68,h69,h70]
          exact ⟨_,rfl⟩
        ·have hr:false=r:=Option.some.inj h
         subst hr
         refine qu rfl ?_ (fun _=>by first | rfl | simp only [go_sem,seval]) (by first | rfl | simp only [go_sem,seval])
         rw [qf (show prY.fns 9=some c9 from rfl) (by simp)]
         simp only [go_sem,seval,c9,Y16 h2,h3,Y17 h5,h6,h7,Y24 h9,Y30 h11,wh13,wh15,wh17,wh19,Y25 h21,Y33 h23,wh25,h26,Y71 h28,Y72 h30,h31,h63,Y73 h65,wh67,h68,h69]
         exact ⟨_,rfl⟩
       ·have hr:false=r:=Option.some.inj h
        subst hr
        refine qu rfl ?_ (fun _=>by first | rfl | simp only [go_sem,seval]) (by first | rfl | simp only [go_sem,seval])
        rw [qf (show prY.fns 9=some c9 from rfl) (by simp)]
        simp only [go_sem,seval,c9,Y16 h2,h3,Y17 h5,h6,h7,Y24 h9,Y30 h11,wh13,wh15,wh17,wh19,Y25 h21,Y33 h23,wh25,h26,Y71 h28,Y72 h30,h31,h63,Y73 h65,wh67,h68]
        exact ⟨_,rfl⟩
      ·obtain ⟨v80,h81,h⟩:=qb h
       have wh81:qd prY (X prY) 43 [.int .i64 v12.1,.int .i64 v12.2,.int .i64 v24,.int .i64 v27]=some (.bool v80,false):=Y43 h81
       rcases qa h with ⟨h82,h⟩ | ⟨h82,h⟩
       ·rcases qa h with ⟨h83,h⟩ | ⟨h83,h⟩
        ·rcases qa h with ⟨h84,h⟩ | ⟨h84,h⟩
         ·obtain ⟨v85,h86,h⟩:=qb h
          have wh86:qd prY (X prY) 75 [sl 8 qg v16.1]=some (sl 8 qg v85.1,v85.2):=Y75 h86
          obtain ⟨v87,h88,h⟩:=qb h
          have wh88:qd prY (X prY) 74 [sl 8 qg v85.1,sl 8 qg v29.1]=some (.bool v87,false):=Y74 h88
          rcases qa h with ⟨h89,h⟩ | ⟨h89,h⟩
          ·rcases qa h with ⟨h90,h⟩ | ⟨h90,h⟩
           ·obtain ⟨v91,h92,h⟩:=qb h
            have wh92:qd prY (X prY) 42 [sl 1 qp v18.1,.list true 0 []]=some (.bool v91,false):=Y42 h92
            rcases qa h with ⟨h93,h⟩ | ⟨h93,h⟩
            ·have hr:decide (v18.2=v20)=r:=Option.some.inj h
             subst hr
             refine qu rfl ?_ (fun _=>by first | rfl | simp only [go_sem,seval]) (by first | rfl | simp only [go_sem,seval])
             rw [qf (show prY.fns 9=some c9 from rfl) (by simp)]
             simp only [go_sem,seval,c9,Y16 h2,h3,Y17 h5,h6,h7,Y24 h9,Y30 h11,wh13,wh15,wh17,wh19,Y25 h21,Y33 h23,wh25,h26,Y71 h28,Y72 h30,h31,h63,wh81,h82,h83,h84,wh86,wh88,h89,h90,wh92,h93]
             exact ⟨_,rfl⟩
            ·have hr:false=r:=Option.some.inj h
             subst hr
             refine qu rfl ?_ (fun _=>by first | rfl | simp only [go_sem,seval]) (by first | rfl | simp only [go_sem,seval])
             rw [qf (show prY.fns 9=some c9 from rfl) (by simp)]
             simp only [go_sem,seval,c9,Y16 h2,h3,Y17 h5,h6,h7,Y24 h9,Y30 h11,wh13,wh15,wh17,wh19,Y25 h21,Y33 h23,wh25,h26,Y71 h28,Y72 h30,h31,h63,wh81,h82,h83,h84,wh86,wh88,h89,h90,wh92,h93]
             exact ⟨_,rfl⟩
           ·have hr:false=r:=Option.some.inj h
            subst hr
            refine qu rfl ?_ (fun _=>by first | rfl | simp only [go_sem,seval]) (by first | rfl | simp only [go_sem,seval])
            rw [qf (show prY.fns 9=some c9 from rfl) (by simp)]
            simp only [go_sem,seval,c9,Y16 h2,h3,Y17 h5,h6,h7,Y24 h9,Y30 h11,wh13,wh15,wh17,wh19,Y25 h21,Y33 h23,wh25,h26,Y71 h28,Y72 h30,h31,h63,wh81,h82,h83,h84,wh86,wh88,h89,h90]
            exact ⟨_,rfl⟩
          ·have hr:false=r:=Option.some.inj h
           subst hr
           refine qu rfl ?_ (fun _=>by first | rfl | simp only [go_sem,seval]) (by first | rfl | simp only [go_sem,seval])
           rw [qf (show prY.fns 9=some c9 from rfl) (by simp)]
           simp only [go_sem,seval,c9,Y16 h2,h3,Y17 h5,h6,h7,Y24 h9,Y30 h11,wh13,wh15,wh17,wh19,Y25 h21,Y33 h23,wh25,h26,Y71 h28,Y72 h30,h31,h63,wh81,h82,h83,h84,wh86,wh88,h89]
           exact ⟨_,rfl⟩
         ·have hr:false=r:=Option.some.inj h
          subst hr
          refine qu rfl ?_ (fun _=>by first | rfl | simp only [go_sem,seval]) (by first | rfl | simp only [go_sem,seval])
          rw [qf (show prY.fns 9=some c9 from rfl) (by simp)]
          simp only [go_sem,seval,c9,Y16 h2,h3,Y17 h5,h6,h7,Y24 h9,Y30 h11,wh13,wh15,wh17,wh19,Y25 h21,Y33 h23,wh25,h26,Y71 h28,Y72 h30,h31,h63,wh81,h82,h83,h84]
          exact ⟨_,rfl⟩
        ·have hr:false=r:=Option.some.inj h
         subst hr
         refine qu rfl ?_ (fun _=>by first | rfl | simp only [go_sem,seval]) (by first | rfl | simp only [go_sem,seval])
         rw [qf (show prY.fns 9=some c9 from rfl) (by simp)]
         simp only [go_sem,seval,c9,Y16 h2,h3,Y17 h5,h6,h7,Y24 h9,Y30 h11,wh13,wh15,wh17,wh19,Y25 h21,Y33 h23,wh25,h26,Y71 h28,Y72 h30,h31,h63,wh81,h82,h83]
         exact ⟨_,rfl⟩
       ·have hr:false=r:=Option.some.inj h
        subst hr
        refine qu rfl ?_ (fun _=>by first | rfl | simp only [go_sem,seval]) (by first | rfl | simp only [go_sem,seval])
        rw [qf (show prY.fns 9=some c9 from rfl) (by simp)]
        simp only [go_sem,seval,c9,Y16 h2,h3,Y17 h5,h6,h7,Y24 h9,Y30 h11,wh13,wh15,wh17,wh19,Y25 h21,Y33 h23,wh25,h26,Y71 h28,Y72 h30,h31,h63,wh81,h82]
        exact ⟨_,rfl⟩
    ·rcases qa h with ⟨h94,h⟩ | ⟨h94,h⟩
     ·obtain ⟨v95,h96,h⟩:=qb h
      obtain ⟨v97,h98,h⟩:=qb h
      have wh98:qd prY (X prY) 43 [.int .i64 v12.1,.int .i64 v12.2,.int .i64 v24,.int .i64 0]=some (.bool v97,false):=Y43 h98
      rcases qa h with ⟨h99,h⟩ | ⟨h99,h⟩
      ·rcases qa h with ⟨h100,h⟩ | ⟨h100,h⟩
       ·rcases qa h with ⟨h101,h⟩ | ⟨h101,h⟩
        ·obtain ⟨v102,h103,h⟩:=qb h
         have wh103:qd prY (X prY) 75 [sl 8 qg v16.1]=some (sl 8 qg v102.1,v102.2):=Y75 h103
         obtain ⟨v104,h105,h⟩:=qb h
         have wh105:qd prY (X prY) 74 [sl 8 qg v102.1,.list true 0 []]=some (.bool v104,false):=Y74 h105
         rcases qa h with ⟨h106,h⟩ | ⟨h106,h⟩
         ·rcases qa h with ⟨h107,h⟩ | ⟨h107,h⟩
          ·obtain ⟨v108,h109,h⟩:=qb h
           have wh109:qd prY (X prY) 42 [sl 1 qp v18.1,sl 1 qp v95.1]=some (.bool v108,false):=Y42 h109
           rcases qa h with ⟨h110,h⟩ | ⟨h110,h⟩
           ·have hr:decide (v18.2=v20)=r:=Option.some.inj h
            subst hr
            refine qu rfl ?_ (fun _=>by first | rfl | simp only [go_sem,seval]) (by first | rfl | simp only [go_sem,seval])
            rw [qf (show prY.fns 9=some c9 from rfl) (by simp)]
            simp only [go_sem,seval,c9,Y16 h2,h3,Y17 h5,h6,h7,Y24 h9,Y30 h11,wh13,wh15,wh17,wh19,Y25 h21,Y33 h23,wh25,h26,h94,Y73 h96,wh98,h99,h100,h101,wh103,wh105,h106,h107,wh109,h110]
            exact ⟨_,rfl⟩
           ·have hr:false=r:=Option.some.inj h
            subst hr
            refine qu rfl ?_ (fun _=>by first | rfl | simp only [go_sem,seval]) (by first | rfl | simp only [go_sem,seval])
            rw [qf (show prY.fns 9=some c9 from rfl) (by simp)]
            simp only [go_sem,seval,c9,Y16 h2,h3,Y17 h5,h6,h7,Y24 h9,Y30 h11,wh13,wh15,wh17,wh19,Y25 h21,Y33 h23,wh25,h26,h94,Y73 h96,wh98,h99,h100,h101,wh103,wh105,h106,h107,wh109,h110]
            exact ⟨_,rfl⟩
          ·have hr:false=r:=Option.some.inj h
           subst hr
           refine qu rfl ?_ (fun _=>by first | rfl | simp only [go_sem,seval]) (by first | rfl | simp only [go_sem,seval])
           rw [qf (show prY.fns 9=some c9 from rfl) (by simp)]
           simp only [go_sem,seval,c9,Y16 h2,h3,Y17 h5,h6,h7,Y24 h9,Y30 h11,wh13,wh15,wh17,wh19,Y25 h21,Y33 h23,wh25,h26,h94,Y73 h96,wh98,h99,h100,h101,wh103,wh105,h106,h107]
           exact ⟨_,rfl⟩
         ·have hr:false=r:=Option.some.inj h
          subst hr
          refine qu rfl ?_ (fun _=>by first | rfl | simp only [go_sem,seval]) (by first | rfl | simp only [go_sem,seval])
          rw [qf (show prY.fns 9=some c9 from rfl) (by simp)]
          simp only [go_sem,seval,c9,Y16 h2,h3,Y17 h5,h6,h7,Y24 h9,Y30 h11,wh13,wh15,wh17,wh19,Y25 h21,Y33 h23,wh25,h26,h94,Y73 h96,wh98,h99,h100,h101,wh103,wh105,h106]
          exact ⟨_,rfl⟩
        ·have hr:false=r:=Option.some.inj h
         subst hr
         refine qu rfl ?_ (fun _=>by first | rfl | simp only [go_sem,seval]) (by first | rfl | simp only [go_sem,seval])
         rw [qf (show prY.fns 9=some c9 from rfl) (by simp)]
         simp only [go_sem,seval,c9,Y16 h2,h3,Y17 h5,h6,h7,Y24 h9,Y30 h11,wh13,wh15,wh17,wh19,Y25 h21,Y33 h23,wh25,h26,h94,Y73 h96,wh98,h99,h100,h101]
         exact ⟨_,rfl⟩
       ·have hr:false=r:=Option.some.inj h
        subst hr
        refine qu rfl ?_ (fun _=>by first | rfl | simp only [go_sem,seval]) (by first | rfl | simp only [go_sem,seval])
        rw [qf (show prY.fns 9=some c9 from rfl) (by simp)]
        simp only [go_sem,seval,c9,Y16 h2,h3,Y17 h5,h6,h7,Y24 h9,Y30 h11,wh13,wh15,wh17,wh19,Y25 h21,Y33 h23,wh25,h26,h94,Y73 h96,wh98,h99,h100]
        exact ⟨_,rfl⟩
      ·have hr:false=r:=Option.some.inj h
       subst hr
       refine qu rfl ?_ (fun _=>by first | rfl | simp only [go_sem,seval]) (by first | rfl | simp only [go_sem,seval])
       rw [qf (show prY.fns 9=some c9 from rfl) (by simp)]
       simp only [go_sem,seval,c9,Y16 h2,h3,Y17 h5,h6,h7,Y24 h9,Y30 h11,wh13,wh15,wh17,wh19,Y25 h21,Y33 h23,wh25,h26,h94,Y73 h96,wh98,h99]
       exact ⟨_,rfl⟩
     ·obtain ⟨v111,h112,h⟩:=qb h
      have wh112:qd prY (X prY) 43 [.int .i64 v12.1,.int .i64 v12.2,.int .i64 v24,.int .i64 0]=some (.bool v111,false):=Y43 h112
      rcases qa h with ⟨h113,h⟩ | ⟨h113,h⟩
      ·rcases qa h with ⟨h114,h⟩ | ⟨h114,h⟩
       ·rcases qa h with ⟨h115,h⟩ | ⟨h115,h⟩
        ·obtain ⟨v116,h117,h⟩:=qb h
         have wh117:qd prY (X prY) 75 [sl 8 qg v16.1]=some (sl 8 qg v116.1,v116.2):=Y75 h117
         obtain ⟨v118,h119,h⟩:=qb h
         have wh119:qd prY (X prY) 74 [sl 8 qg v116.1,.list true 0 []]=some (.bool v118,false):=Y74 h119
         rcases qa h with ⟨h120,h⟩ | ⟨h120,h⟩
         ·rcases qa h with ⟨h121,h⟩ | ⟨h121,h⟩
          ·obtain ⟨v122,h123,h⟩:=qb h
           have wh123:qd prY (X prY) 42 [sl 1 qp v18.1,.list true 0 []]=some (.bool v122,false):=Y42 h123
           rcases qa h with ⟨h124,h⟩ | ⟨h124,h⟩
           ·have hr:decide (v18.2=v20)=r:=Option.some.inj h
            subst hr
            refine qu rfl ?_ (fun _=>by first | rfl | simp only [go_sem,seval]) (by first | rfl | simp only [go_sem,seval])
            rw [qf (show prY.fns 9=some c9 from rfl) (by simp)]
            simp only [go_sem,seval,c9,Y16 h2,h3,Y17 h5,h6,h7,Y24 h9,Y30 h11,wh13,wh15,wh17,wh19,Y25 h21,Y33 h23,wh25,h26,h94,wh112,h113,h114,h115,wh117,wh119,h120,h121,wh123,h124]
            exact ⟨_,rfl⟩
           ·have hr:false=r:=Option.some.inj h
            subst hr
            refine qu rfl ?_ (fun _=>by first | rfl | simp only [go_sem,seval]) (by first | rfl | simp only [go_sem,seval])
            rw [qf (show prY.fns 9=some c9 from rfl) (by simp)]
            simp only [go_sem,seval,c9,Y16 h2,h3,Y17 h5,h6,h7,Y24 h9,Y30 h11,wh13,wh15,wh17,wh19,Y25 h21,Y33 h23,wh25,h26,h94,wh112,h113,h114,h115,wh117,wh119,h120,h121,wh123,h124]
            exact ⟨_,rfl⟩
          ·have hr:false=r:=Option.some.inj h
           subst hr
           refine qu rfl ?_ (fun _=>by first | rfl | simp only [go_sem,seval]) (by first | rfl | simp only [go_sem,seval])
           rw [qf (show prY.fns 9=some c9 from rfl) (by simp)]
           simp only [go_sem,seval,c9,Y16 h2,h3,Y17 h5,h6,h7,Y24 h9,Y30 h11,wh13,wh15,wh17,wh19,Y25 h21,Y33 h23,wh25,h26,h94,wh112,h113,h114,h115,wh117,wh119,h120,h121]
           exact ⟨_,rfl⟩
         ·have hr:false=r:=Option.some.inj h
          subst hr
          refine qu rfl ?_ (fun _=>by first | rfl | simp only [go_sem,seval]) (by first | rfl | simp only [go_sem,seval])
          rw [qf (show prY.fns 9=some c9 from rfl) (by simp)]
          simp only [go_sem,seval,c9,Y16 h2,h3,Y17 h5,h6,h7,Y24 h9,Y30 h11,wh13,wh15,wh17,wh19,Y25 h21,Y33 h23,wh25,h26,h94,wh112,h113,h114,h115,wh117,wh119,h120]
          exact ⟨_,rfl⟩
        ·have hr:false=r:=Option.some.inj h
         subst hr
         refine qu rfl ?_ (fun _=>by first | rfl | simp only [go_sem,seval]) (by first | rfl | simp only [go_sem,seval])
         rw [qf (show prY.fns 9=some c9 from rfl) (by simp)]
         simp only [go_sem,seval,c9,Y16 h2,h3,Y17 h5,h6,h7,Y24 h9,Y30 h11,wh13,wh15,wh17,wh19,Y25 h21,Y33 h23,wh25,h26,h94,wh112,h113,h114,h115]
         exact ⟨_,rfl⟩
       ·have hr:false=r:=Option.some.inj h
        subst hr
        refine qu rfl ?_ (fun _=>by first | rfl | simp only [go_sem,seval]) (by first | rfl | simp only [go_sem,seval])
        rw [qf (show prY.fns 9=some c9 from rfl) (by simp)]
        simp only [go_sem,seval,c9,Y16 h2,h3,Y17 h5,h6,h7,Y24 h9,Y30 h11,wh13,wh15,wh17,wh19,Y25 h21,Y33 h23,wh25,h26,h94,wh112,h113,h114]
        exact ⟨_,rfl⟩
      ·have hr:false=r:=Option.some.inj h
       subst hr
       refine qu rfl ?_ (fun _=>by first | rfl | simp only [go_sem,seval]) (by first | rfl | simp only [go_sem,seval])
       rw [qf (show prY.fns 9=some c9 from rfl) (by simp)]
       simp only [go_sem,seval,c9,Y16 h2,h3,Y17 h5,h6,h7,Y24 h9,Y30 h11,wh13,wh15,wh17,wh19,Y25 h21,Y33 h23,wh25,h26,h94,wh112,h113]
       exact ⟨_,rfl⟩
  ·have hr:v1=r:=Option.some.inj h
   subst hr
   refine qu rfl ?_ (fun _=>by first | rfl | simp only [go_sem,seval]) (by first | rfl | simp only [go_sem,seval])
   rw [qf (show prY.fns 9=some c9 from rfl) (by simp)]
   simp only [go_sem,seval,c9,Y16 h2,h3,Y17 h5,h6]
   exact ⟨_,rfl⟩
 ·have hr:v1=r:=Option.some.inj h
  subst hr
  refine qu rfl ?_ (fun _=>by first | rfl | simp only [go_sem,seval]) (by first | rfl | simp only [go_sem,seval])
  rw [qf (show prY.fns 9=some c9 from rfl) (by simp)]
  simp only [go_sem,seval,c9,Y16 h2,h3]
  exact ⟨_,rfl⟩
end Go.Z
