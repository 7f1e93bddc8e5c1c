/-
  Chapter 4: the law CrossoverFaults: functions that mirror the runs, and the runs (printed by walk.py).
-/
import Derived.Test.YtnjngdcbkkonnaaGreatDoorLZ
import Derived.Test.YtnjngdcbkkonnaaGreatDoorCW
set_option linter.unusedVariables false
set_option linter.unusedSimpArgs false
set_option maxRecDepth 100000
set_option maxHeartbeats 4000000
namespace Go.Z
open Go Go.Abs
theorem Q24 {a0:Option (List qi)} {r} (h:f24 a0=some r):qc prZ (X prZ) 24 [sl 8 qn a0]=some (sl 8 qn r.1,r.2):=atZ rfl rfl (atE rfl rfl (W24 h) (by first | rfl | simp only [go_sem,seval])) (by first | rfl | simp only [go_sem,seval])
theorem Q28 {a0:qbr} {r} (h:f28 a0=some r):qc prZ (X prZ) 28 [.agg [sl 8 qn a0.parts,sl 1 qu a0.choice,sl 5 jd a0.bands]]=some (.bool r,false):=atZ rfl rfl (atE rfl rfl (W28 h) (by first | rfl | simp only [go_sem,seval])) (by first | rfl | simp only [go_sem,seval])
theorem Q30 {a0:Option (List Int)} {r} (h:f30 a0=some r):qc prZ (X prZ) 30 [sl 1 qu a0]=some (sl 1 qu r,true):=atZ rfl rfl (atE rfl rfl (W30 h) (by first | rfl | simp only [go_sem,seval])) (by first | rfl | simp only [go_sem,seval])
theorem Q38 {a0:Option (List ja)} {r} (h:f38 a0=some r):qc prZ (X prZ) 38 [sl 5 jd a0]=some (sl 5 jd r.1,r.2):=atZ rfl rfl (atE rfl rfl (W38 h) (by first | rfl | simp only [go_sem,seval])) (by first | rfl | simp only [go_sem,seval])
theorem Q39 {a0:Option (List ja)} {r} (h:f39 a0=some r):qc prZ (X prZ) 39 [sl 5 jd a0]=some (.int .i64 r,false):=atZ rfl rfl (atE rfl rfl (W39 h) (by first | rfl | simp only [go_sem,seval])) (by first | rfl | simp only [go_sem,seval])
theorem Q44 {a0:Option (List GEl)} {r} (h:f44 a0=some r):qc prZ (X prZ) 44 [sl 3 vel a0]=some (.bool r,false):=atZ rfl rfl (atE rfl rfl (W44 h) (by first | rfl | simp only [go_sem,seval])) (by first | rfl | simp only [go_sem,seval])
theorem Q54 {a0:qbr} {r} (h:f54 a0=some r):qc prZ (X prZ) 54 [.agg [sl 8 qn a0.parts,sl 1 qu a0.choice,sl 5 jd a0.bands]]=some (.int .i64 r,false):=atZ rfl rfl (atE rfl rfl (W54 h) (by first | rfl | simp only [go_sem,seval])) (by first | rfl | simp only [go_sem,seval])
theorem Q59 {a0:Option (List qi)} {a1:Option (List Int)} {a2:Option (List ja)} {r} (h:f59 a0 a1 a2=some r):qc prZ (X prZ) 59 [sl 8 qn a0,sl 1 qu a1,sl 5 jd a2]=some (.tup [.agg [.int .i64 r.1.band,sl 3 vel r.1.ladder],.int .i64 r.2],false):=atZ rfl rfl (atE rfl rfl (W59 h) (by first | rfl | simp only [go_sem,seval])) (by first | rfl | simp only [go_sem,seval])
theorem Q77 {a0:Option (List qi)} {a1:Option (List Int)} {a2:Option (List ja)} {a3:jx} {r} (h:f77 a0 a1 a2 a3=some r):qc prZ (X prZ) 77 [sl 8 qn a0,sl 1 qu a1,sl 5 jd a2,.agg [.int .i64 a3.band,sl 3 vel a3.ladder]]=some (.int .i64 r,false):=atZ rfl rfl (atE rfl rfl (W77 h) (by first | rfl | simp only [go_sem,seval])) (by first | rfl | simp only [go_sem,seval])
theorem Q78 {a0:jx} {r} (h:f78 a0=some r):qc prZ (X prZ) 78 [.agg [.int .i64 a0.band,sl 3 vel a0.ladder]]=some (.agg [.int .i64 r.band,sl 3 vel r.ladder],false):=atZ rfl rfl (atE rfl rfl (W78 h) (by first | rfl | simp only [go_sem,seval])) (by first | rfl | simp only [go_sem,seval])
theorem Q79 {a0:Option (List qi)} {a1:Option (List Int)} {a2:Option (List ja)} {r} (h:f79 a0 a1 a2=some r):qc prZ (X prZ) 79 [sl 8 qn a0,sl 1 qu a1,sl 5 jd a2]=some (.tup [.agg [.int .i64 r.1.band,sl 3 vel r.1.ladder],.bool r.2],false):=atZ rfl rfl (atE rfl rfl (W79 h) (by first | rfl | simp only [go_sem,seval])) (by first | rfl | simp only [go_sem,seval])
theorem Q80 {a0:Option (List qi)} {a1:Option (List Int)} {a2:Option (List ja)} {a3:jx} {r} (h:f80 a0 a1 a2 a3=some r):qc prZ (X prZ) 80 [sl 8 qn a0,sl 1 qu a1,sl 5 jd a2,.agg [.int .i64 a3.band,sl 3 vel a3.ladder]]=some (.int .i64 r,false):=atZ rfl rfl (atE rfl rfl (W80 h) (by first | rfl | simp only [go_sem,seval])) (by first | rfl | simp only [go_sem,seval])
theorem Q81 {a0:Option (List ja)} {r} (h:f81 a0=some r):qc prZ (X prZ) 81 [sl 5 jd a0]=some (.int .i64 r,false):=atZ rfl rfl (atE rfl rfl (W81 h) (by first | rfl | simp only [go_sem,seval])) (by first | rfl | simp only [go_sem,seval])
theorem Q82 {a0:jx} {a1:jx} {r} (h:f82 a0 a1=some r):qc prZ (X prZ) 82 [.agg [.int .i64 a0.band,sl 3 vel a0.ladder],.agg [.int .i64 a1.band,sl 3 vel a1.ladder]]=some (.bool r,false):=atZ rfl rfl (atE rfl rfl (W82 h) (by first | rfl | simp only [go_sem,seval])) (by first | rfl | simp only [go_sem,seval])
theorem Q83 {a0:jx} {r} (h:f83 a0=some r):qc prZ (X prZ) 83 [.agg [.int .i64 a0.band,sl 3 vel a0.ladder]]=some (.agg [.int .i64 r.band,sl 3 vel r.ladder],false):=atZ rfl rfl (atE rfl rfl (W83 h) (by first | rfl | simp only [go_sem,seval])) (by first | rfl | simp only [go_sem,seval])
noncomputable def f11 (a0:qbr) (a1:jx):Option Bool:=
 qd (E16) fun v1=>
 cond v1
  (qd (f28 a0) fun v4=>
  cond v4
   (qd (f44 a1.ladder) fun v7=>
   cond v7
    (qd (f24 a0.parts) fun v10=>
    qd (f30 a0.choice) fun v12=>
    qd (f38 a0.bands) fun v14=>
    qd (f59 v10.1 v12 v14.1) fun v16=>
    qd (f78 a1) fun v18=>
    qd (f77 v10.1 v12 v14.1 v18) fun v20=>
    qd (f54 a0) fun v22=>
    cond (decide (v22=0))
     (qd (f79 a0.parts a0.choice a0.bands) fun v25=>
     cond v25.2
      (qd (f80 a0.parts a0.choice a0.bands a1) fun v28=>
      qd (f81 v14.1) fun v30=>
      qd (f39 a0.bands) fun v32=>
      cond (decide (v30=v32))
       (qd (f83 v16.1) fun v35=>
       qd (f82 v35 v25.1) fun v37=>
       cond v37
        (cond (decide (v16.2=v22))
         (some (decide (v20=v28)))
         (some false))
        (some false))
       (some false))
      (qd (f80 a0.parts a0.choice a0.bands a1) fun v41=>
      qd (f81 v14.1) fun v43=>
      qd (f39 a0.bands) fun v45=>
      cond (decide (v43=v45))
       (qd (f83 v16.1) fun v48=>
       qd (f82 v48 v25.1) fun v50=>
       cond v50
        (cond (decide (v16.2=7))
         (some (decide (v20=v41)))
         (some false))
        (some false))
       (some false)))
     (qd (f81 v14.1) fun v54=>
     qd (f39 a0.bands) fun v56=>
     cond (decide (v54=v56))
      (qd (f83 v16.1) fun v59=>
      qd (f82 v59 (⟨0,none⟩)) fun v61=>
      cond v61
       (cond (decide (v16.2=v22))
        (some (decide (v20=v22)))
        (some false))
       (some false))
      (some false)))
    (some v1))
   (some v1))
  (some v1)
theorem W11 {a0:qbr} {a1:jx} {r} (h:f11 a0 a1=some r):qc prZ (X prZ) 11 [.agg [sl 8 qn a0.parts,sl 1 qu a0.choice,sl 5 jd a0.bands],.agg [.int .i64 a1.band,sl 3 vel a1.ladder]]=some (.bool r,false):=by
 unfold f11 at h
 obtain ⟨v1,h2,h⟩:=qa h
 rcases qb h with ⟨h3,h⟩ | ⟨h3,h⟩
 ·obtain ⟨v4,h5,h⟩:=qa h
  have wh5:qc prZ (X prZ) 28 [.agg [sl 8 qn a0.parts,sl 1 qu a0.choice,sl 5 jd a0.bands]]=some (.bool v4,false):=Q28 h5
  rcases qb h with ⟨h6,h⟩ | ⟨h6,h⟩
  ·obtain ⟨v7,h8,h⟩:=qa h
   have wh8:qc prZ (X prZ) 44 [sl 3 vel a1.ladder]=some (.bool v7,false):=Q44 h8
   rcases qb h with ⟨h9,h⟩ | ⟨h9,h⟩
   ·obtain ⟨v10,h11,h⟩:=qa h
    have wh11:qc prZ (X prZ) 24 [sl 8 qn a0.parts]=some (sl 8 qn v10.1,v10.2):=Q24 h11
    obtain ⟨v12,h13,h⟩:=qa h
    have wh13:qc prZ (X prZ) 30 [sl 1 qu a0.choice]=some (sl 1 qu v12,true):=Q30 h13
    obtain ⟨v14,h15,h⟩:=qa h
    have wh15:qc prZ (X prZ) 38 [sl 5 jd a0.bands]=some (sl 5 jd v14.1,v14.2):=Q38 h15
    obtain ⟨v16,h17,h⟩:=qa h
    have wh17:qc prZ (X prZ) 59 [sl 8 qn v10.1,sl 1 qu v12,sl 5 jd v14.1]=some (.tup [.agg [.int .i64 v16.1.band,sl 3 vel v16.1.ladder],.int .i64 v16.2],false):=Q59 h17
    obtain ⟨v18,h19,h⟩:=qa h
    have wh19:qc prZ (X prZ) 78 [.agg [.int .i64 a1.band,sl 3 vel a1.ladder]]=some (.agg [.int .i64 v18.band,sl 3 vel v18.ladder],false):=Q78 h19
    obtain ⟨v20,h21,h⟩:=qa h
    have wh21:qc prZ (X prZ) 77 [sl 8 qn v10.1,sl 1 qu v12,sl 5 jd v14.1,.agg [.int .i64 v18.band,sl 3 vel v18.ladder]]=some (.int .i64 v20,false):=Q77 h21
    obtain ⟨v22,h23,h⟩:=qa h
    have wh23:qc prZ (X prZ) 54 [.agg [sl 8 qn a0.parts,sl 1 qu a0.choice,sl 5 jd a0.bands]]=some (.int .i64 v22,false):=Q54 h23
    rcases qb h with ⟨h24,h⟩ | ⟨h24,h⟩
    ·obtain ⟨v25,h26,h⟩:=qa h
     have wh26:qc prZ (X prZ) 79 [sl 8 qn a0.parts,sl 1 qu a0.choice,sl 5 jd a0.bands]=some (.tup [.agg [.int .i64 v25.1.band,sl 3 vel v25.1.ladder],.bool v25.2],false):=Q79 h26
     rcases qb h with ⟨h27,h⟩ | ⟨h27,h⟩
     ·obtain ⟨v28,h29,h⟩:=qa h
      have wh29:qc prZ (X prZ) 80 [sl 8 qn a0.parts,sl 1 qu a0.choice,sl 5 jd a0.bands,.agg [.int .i64 a1.band,sl 3 vel a1.ladder]]=some (.int .i64 v28,false):=Q80 h29
      obtain ⟨v30,h31,h⟩:=qa h
      have wh31:qc prZ (X prZ) 81 [sl 5 jd v14.1]=some (.int .i64 v30,false):=Q81 h31
      obtain ⟨v32,h33,h⟩:=qa h
      have wh33:qc prZ (X prZ) 39 [sl 5 jd a0.bands]=some (.int .i64 v32,false):=Q39 h33
      rcases qb h with ⟨h34,h⟩ | ⟨h34,h⟩
      ·obtain ⟨v35,h36,h⟩:=qa h
       have wh36:qc prZ (X prZ) 83 [.agg [.int .i64 v16.1.band,sl 3 vel v16.1.ladder]]=some (.agg [.int .i64 v35.band,sl 3 vel v35.ladder],false):=Q83 h36
       obtain ⟨v37,h38,h⟩:=qa h
       have wh38:qc prZ (X prZ) 82 [.agg [.int .i64 v35.band,sl 3 vel v35.ladder],.agg [.int .i64 v25.1.band,sl 3 vel v25.1.ladder]]=some (.bool v37,false):=Q82 h38
       rcases qb h with ⟨h39,h⟩ | ⟨h39,h⟩
       ·rcases qb h with ⟨h40,h⟩ | ⟨h40,h⟩
        ·have hr:decide (v20=v28)=r:=Option.some.inj h
         subst hr
         refine qp rfl ?_ (fun _=>by first | rfl | simp only [go_sem,seval]) (by first | rfl | simp only [go_sem,seval])
         rw [qf (show prZ.fns 11=some c11 from rfl) (by simp)]
         simp only [go_sem,seval,c11,Q16 h2,h3,wh5,h6,wh8,h9,wh11,wh13,wh15,wh17,wh19,wh21,wh23,h24,wh26,h27,wh29,wh31,wh33,h34,wh36,wh38,h39,h40]
         exact ⟨_,rfl⟩
        ·have hr:false=r:=Option.some.inj h
         subst hr
         refine qp rfl ?_ (fun _=>by first | rfl | simp only [go_sem,seval]) (by first | rfl | simp only [go_sem,seval])
         rw [qf (show prZ.fns 11=some c11 from rfl) (by simp)]
         simp only [go_sem,seval,c11,Q16 h2,h3,wh5,h6,wh8,h9,wh11,wh13,wh15,wh17,wh19,wh21,wh23,h24,wh26,h27,wh29,wh31,wh33,h34,wh36,wh38,h39,h40]
         exact ⟨_,rfl⟩
       ·have hr:false=r:=Option.some.inj h
        subst hr
        refine qp rfl ?_ (fun _=>by first | rfl | simp only [go_sem,seval]) (by first | rfl | simp only [go_sem,seval])
        rw [qf (show prZ.fns 11=some c11 from rfl) (by simp)]
        simp only [go_sem,seval,c11,Q16 h2,h3,wh5,h6,wh8,h9,wh11,wh13,wh15,wh17,wh19,wh21,wh23,h24,wh26,h27,wh29,wh31,wh33,h34,wh36,wh38,h39]
        exact ⟨_,rfl⟩
      ·have hr:false=r:=Option.some.inj h
       subst hr
       refine qp rfl ?_ (fun _=>by first | rfl | simp only [go_sem,seval]) (by first | rfl | simp only [go_sem,seval])
       rw [qf (show prZ.fns 11=some c11 from rfl) (by simp)]
       simp only [go_sem,seval,c11,Q16 h2,h3,wh5,h6,wh8,h9,wh11,wh13,wh15,wh17,wh19,wh21,wh23,h24,wh26,h27,wh29,wh31,wh33,h34]
       exact ⟨_,rfl⟩
     ·obtain ⟨v41,h42,h⟩:=qa h
      have wh42:qc prZ (X prZ) 80 [sl 8 qn a0.parts,sl 1 qu a0.choice,sl 5 jd a0.bands,.agg [.int .i64 a1.band,sl 3 vel a1.ladder]]=some (.int .i64 v41,false):=Q80 h42
      obtain ⟨v43,h44,h⟩:=qa h
      have wh44:qc prZ (X prZ) 81 [sl 5 jd v14.1]=some (.int .i64 v43,false):=Q81 h44
      obtain ⟨v45,h46,h⟩:=qa h
      have wh46:qc prZ (X prZ) 39 [sl 5 jd a0.bands]=some (.int .i64 v45,false):=Q39 h46
      rcases qb h with ⟨h47,h⟩ | ⟨h47,h⟩
      ·obtain ⟨v48,h49,h⟩:=qa h
       have wh49:qc prZ (X prZ) 83 [.agg [.int .i64 v16.1.band,sl 3 vel v16.1.ladder]]=some (.agg [.int .i64 v48.band,sl 3 vel v48.ladder],false):=Q83 h49
       obtain ⟨v50,h51,h⟩:=qa h
       have wh51:qc prZ (X prZ) 82 [.agg [.int .i64 v48.band,sl 3 vel v48.ladder],.agg [.int .i64 v25.1.band,sl 3 vel v25.1.ladder]]=some (.bool v50,false):=Q82 h51
       rcases qb h with ⟨h52,h⟩ | ⟨h52,h⟩
       ·rcases qb h with ⟨h53,h⟩ | ⟨h53,h⟩
        ·have hr:decide (v20=v41)=r:=Option.some.inj h
         subst hr
         refine qp rfl ?_ (fun _=>by first | rfl | simp only [go_sem,seval]) (by first | rfl | simp only [go_sem,seval])
         rw [qf (show prZ.fns 11=some c11 from rfl) (by simp)]
         simp only [go_sem,seval,c11,Q16 h2,h3,wh5,h6,wh8,h9,wh11,wh13,wh15,wh17,wh19,wh21,wh23,h24,wh26,h27,wh42,wh44,wh46,h47,wh49,wh51,h52,h53]
         exact ⟨_,rfl⟩
        ·have hr:false=r:=Option.some.inj h
         subst hr
         refine qp rfl ?_ (fun _=>by first | rfl | simp only [go_sem,seval]) (by first | rfl | simp only [go_sem,seval])
         rw [qf (show prZ.fns 11=some c11 from rfl) (by simp)]
         simp only [go_sem,seval,c11,Q16 h2,h3,wh5,h6,wh8,h9,wh11,wh13,wh15,wh17,wh19,wh21,wh23,h24,wh26,h27,wh42,wh44,wh46,h47,wh49,wh51,h52,h53]
         exact ⟨_,rfl⟩
       ·have hr:false=r:=Option.some.inj h
        subst hr
        refine qp rfl ?_ (fun _=>by first | rfl | simp only [go_sem,seval]) (by first | rfl | simp only [go_sem,seval])
        rw [qf (show prZ.fns 11=some c11 from rfl) (by simp)]
        simp only [go_sem,seval,c11,Q16 h2,h3,wh5,h6,wh8,h9,wh11,wh13,wh15,wh17,wh19,wh21,wh23,h24,wh26,h27,wh42,wh44,wh46,h47,wh49,wh51,h52]
        exact ⟨_,rfl⟩
      ·have hr:false=r:=Option.some.inj h
       subst hr
       refine qp rfl ?_ (fun _=>by first | rfl | simp only [go_sem,seval]) (by first | rfl | simp only [go_sem,seval])
       rw [qf (show prZ.fns 11=some c11 from rfl) (by simp)]
       simp only [go_sem,seval,c11,Q16 h2,h3,wh5,h6,wh8,h9,wh11,wh13,wh15,wh17,wh19,wh21,wh23,h24,wh26,h27,wh42,wh44,wh46,h47]
       exact ⟨_,rfl⟩
    ·obtain ⟨v54,h55,h⟩:=qa h
     have wh55:qc prZ (X prZ) 81 [sl 5 jd v14.1]=some (.int .i64 v54,false):=Q81 h55
     obtain ⟨v56,h57,h⟩:=qa h
     have wh57:qc prZ (X prZ) 39 [sl 5 jd a0.bands]=some (.int .i64 v56,false):=Q39 h57
     rcases qb h with ⟨h58,h⟩ | ⟨h58,h⟩
     ·obtain ⟨v59,h60,h⟩:=qa h
      have wh60:qc prZ (X prZ) 83 [.agg [.int .i64 v16.1.band,sl 3 vel v16.1.ladder]]=some (.agg [.int .i64 v59.band,sl 3 vel v59.ladder],false):=Q83 h60
      obtain ⟨v61,h62,h⟩:=qa h
      have wh62:qc prZ (X prZ) 82 [.agg [.int .i64 v59.band,sl 3 vel v59.ladder],.agg [.int .i64 0,.list true 0 []]]=some (.bool v61,false):=Q82 h62
      rcases qb h with ⟨h63,h⟩ | ⟨h63,h⟩
      ·rcases qb h with ⟨h64,h⟩ | ⟨h64,h⟩
       ·have hr:decide (v20=v22)=r:=Option.some.inj h
        subst hr
        refine qp rfl ?_ (fun _=>by first | rfl | simp only [go_sem,seval]) (by first | rfl | simp only [go_sem,seval])
        rw [qf (show prZ.fns 11=some c11 from rfl) (by simp)]
        simp only [go_sem,seval,c11,Q16 h2,h3,wh5,h6,wh8,h9,wh11,wh13,wh15,wh17,wh19,wh21,wh23,h24,wh55,wh57,h58,wh60,wh62,h63,h64]
        exact ⟨_,rfl⟩
       ·have hr:false=r:=Option.some.inj h
        subst hr
        refine qp rfl ?_ (fun _=>by first | rfl | simp only [go_sem,seval]) (by first | rfl | simp only [go_sem,seval])
        rw [qf (show prZ.fns 11=some c11 from rfl) (by simp)]
        simp only [go_sem,seval,c11,Q16 h2,h3,wh5,h6,wh8,h9,wh11,wh13,wh15,wh17,wh19,wh21,wh23,h24,wh55,wh57,h58,wh60,wh62,h63,h64]
        exact ⟨_,rfl⟩
      ·have hr:false=r:=Option.some.inj h
       subst hr
       refine qp rfl ?_ (fun _=>by first | rfl | simp only [go_sem,seval]) (by first | rfl | simp only [go_sem,seval])
       rw [qf (show prZ.fns 11=some c11 from rfl) (by simp)]
       simp only [go_sem,seval,c11,Q16 h2,h3,wh5,h6,wh8,h9,wh11,wh13,wh15,wh17,wh19,wh21,wh23,h24,wh55,wh57,h58,wh60,wh62,h63]
       exact ⟨_,rfl⟩
     ·have hr:false=r:=Option.some.inj h
      subst hr
      refine qp rfl ?_ (fun _=>by first | rfl | simp only [go_sem,seval]) (by first | rfl | simp only [go_sem,seval])
      rw [qf (show prZ.fns 11=some c11 from rfl) (by simp)]
      simp only [go_sem,seval,c11,Q16 h2,h3,wh5,h6,wh8,h9,wh11,wh13,wh15,wh17,wh19,wh21,wh23,h24,wh55,wh57,h58]
      exact ⟨_,rfl⟩
   ·have hr:v1=r:=Option.some.inj h
    subst hr
    refine qp rfl ?_ (fun _=>by first | rfl | simp only [go_sem,seval]) (by first | rfl | simp only [go_sem,seval])
    rw [qf (show prZ.fns 11=some c11 from rfl) (by simp)]
    simp only [go_sem,seval,c11,Q16 h2,h3,wh5,h6,wh8,h9]
    exact ⟨_,rfl⟩
  ·have hr:v1=r:=Option.some.inj h
   subst hr
   refine qp rfl ?_ (fun _=>by first | rfl | simp only [go_sem,seval]) (by first | rfl | simp only [go_sem,seval])
   rw [qf (show prZ.fns 11=some c11 from rfl) (by simp)]
   simp only [go_sem,seval,c11,Q16 h2,h3,wh5,h6]
   exact ⟨_,rfl⟩
 ·have hr:v1=r:=Option.some.inj h
  subst hr
  refine qp rfl ?_ (fun _=>by first | rfl | simp only [go_sem,seval]) (by first | rfl | simp only [go_sem,seval])
  rw [qf (show prZ.fns 11=some c11 from rfl) (by simp)]
  simp only [go_sem,seval,c11,Q16 h2,h3]
  exact ⟨_,rfl⟩
end Go.Z
