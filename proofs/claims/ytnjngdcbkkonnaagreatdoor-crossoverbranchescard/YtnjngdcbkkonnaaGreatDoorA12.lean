/-
  Chapter 4: the law CrossoverBranches: functions that mirror the runs, and the runs (printed by walk.py).
-/
import Derived.Test.YtnjngdcbkkonnaaGreatDoorLZ
import Derived.Test.YtnjngdcbkkonnaaGreatDoorA11
set_option linter.unusedVariables false
set_option linter.unusedSimpArgs false
set_option maxRecDepth 100000
set_option maxHeartbeats 4000000
namespace Go.Z
open Go Go.Abs
theorem Q44 {a0:Option (List GEl)} {r} (h:f44 a0=some r):callIso prZ (X prZ) 44 [sl 3 vel a0]=some (.bool r,false):=atZ rfl rfl (atE rfl rfl (W44 h) (by first | rfl | simp only [go_sem,seval])) (by first | rfl | simp only [go_sem,seval])
theorem Q45 {a0:Option (List GEl)} {a1:Option (List GEl)} {a2:Int} {a3:Bool} {r} (h:f45 a0 a1 a2 a3=some r):callIso prZ (X prZ) 45 [sl 3 vel a0,sl 3 vel a1,.int .i64 a2,.bool a3]=some (.tup [.agg [.int .i64 r.1.a,.int .i64 r.1.b,.int .i64 r.1.c,.int .i64 r.1.d],.int .i64 r.2],false):=atZ rfl rfl (atE rfl rfl (W45 h) (by first | rfl | simp only [go_sem,seval])) (by first | rfl | simp only [go_sem,seval])
theorem Q46 {a0:Option (List GEl)} {r} (h:f46 a0=some r):callIso prZ (X prZ) 46 [sl 3 vel a0]=some (sl 3 vel r.1,r.2):=atZ rfl rfl (atE rfl rfl (W46 h) (by first | rfl | simp only [go_sem,seval])) (by first | rfl | simp only [go_sem,seval])
theorem Q47 {a0:Option (List GEl)} {a1:Option (List GEl)} {a2:Int} {a3:Bool} {r} (h:f47 a0 a1 a2 a3=some r):callIso prZ (X prZ) 47 [sl 3 vel a0,sl 3 vel a1,.int .i64 a2,.bool a3]=some (.tup [.agg [.int .i64 r.1.num,.int .i64 r.1.den],.int .i64 r.2],false):=atZ rfl rfl (atE rfl rfl (W47 h) (by first | rfl | simp only [go_sem,seval])) (by first | rfl | simp only [go_sem,seval])
theorem Q48 {a0:Option (List GEl)} {a1:Option (List GEl)} {a2:Int} {a3:Int} {r} (h:f48 a0 a1 a2 a3=some r):callIso prZ (X prZ) 48 [sl 3 vel a0,sl 3 vel a1,.int .i64 a2,.int .i64 a3]=some (.tup [.int .i64 r.1,.int .i64 r.2],false):=atZ rfl rfl (atE rfl rfl (W48 h) (by first | rfl | simp only [go_sem,seval])) (by first | rfl | simp only [go_sem,seval])
theorem Q49 {a0:Option (List GEl)} {r} (h:f49 a0=some r):callIso prZ (X prZ) 49 [sl 3 vel a0]=some (.int .i64 r,false):=atZ rfl rfl (atE rfl rfl (W49 h) (by first | rfl | simp only [go_sem,seval])) (by first | rfl | simp only [go_sem,seval])
theorem Q50 {a0:Int} {a1:Int} {r} (h:f50 a0 a1=some r):callIso prZ (X prZ) 50 [.int .i64 a0,.int .i64 a1]=some (.int .i64 r,false):=atZ rfl rfl (atE rfl rfl (W50 h) (by first | rfl | simp only [go_sem,seval])) (by first | rfl | simp only [go_sem,seval])
theorem Q57 {a0:Option (List GEl)} {a1:Int} {r} (h:f57 a0 a1=some r):callIso prZ (X prZ) 57 [sl 3 vel a0,.int .i64 a1]=some (.tup [.agg [.int .i64 r.1.num,.int .i64 r.1.den],.int .i64 r.2],false):=atZ rfl rfl (atE rfl rfl (W57 h) (by first | rfl | simp only [go_sem,seval])) (by first | rfl | simp only [go_sem,seval])
theorem Q58 {a0:GRat} {a1:GRat} {r} (h:f58 200 a0 a1=some r):callIso prZ (X prZ) 58 [.agg [.int .i64 a0.num,.int .i64 a0.den],.agg [.int .i64 a1.num,.int .i64 a1.den]]=some (.bool r,false):=atZ rfl rfl (atE rfl rfl (W58 200 h) (by first | rfl | simp only [go_sem,seval])) (by first | rfl | simp only [go_sem,seval])
theorem Q60 {a0:Option (List GEl)} {a1:Int} {r} (h:f60 a0 a1=some r):callIso prZ (X prZ) 60 [sl 3 vel a0,.int .i64 a1]=some (.tup [.agg [.int .i64 r.1.a,.int .i64 r.1.b,.int .i64 r.1.c,.int .i64 r.1.d],.int .i64 r.2],false):=atZ rfl rfl (atE rfl rfl (W60 h) (by first | rfl | simp only [go_sem,seval])) (by first | rfl | simp only [go_sem,seval])
theorem Q61 {a0:GMat} {r} (h:f61 a0=some r):callIso prZ (X prZ) 61 [.agg [.int .i64 a0.m0,.int .i64 a0.m1,.int .i64 a0.m2,.int .i64 a0.m3,.int .i64 a0.m4,.int .i64 a0.m5,.int .i64 a0.m6,.int .i64 a0.m7]]=some (.int .i64 r,false):=atZ rfl rfl (atE rfl rfl (W61 h) (by first | rfl | simp only [go_sem,seval])) (by first | rfl | simp only [go_sem,seval])
theorem Q62 {a0:GQuad} {r} (h:f62 a0=some r):callIso prZ (X prZ) 62 [.agg [.int .i64 a0.a,.int .i64 a0.b,.int .i64 a0.c,.int .i64 a0.d]]=some (.bool r,false):=atZ rfl rfl (atE rfl rfl (W62 h) (by first | rfl | simp only [go_sem,seval])) (by first | rfl | simp only [go_sem,seval])
theorem Q63 {a0:GRat} {a1:GRat} {r} (h:f63 a0 a1=some r):callIso prZ (X prZ) 63 [.agg [.int .i64 a0.num,.int .i64 a0.den],.agg [.int .i64 a1.num,.int .i64 a1.den]]=some (.agg [.int .i64 r.num,.int .i64 r.den],false):=atZ rfl rfl (atE rfl rfl (W63 h) (by first | rfl | simp only [go_sem,seval])) (by first | rfl | simp only [go_sem,seval])
theorem Q64 {a0:GRat} {a1:GRat} {r} (h:f64 a0 a1=some r):callIso prZ (X prZ) 64 [.agg [.int .i64 a0.num,.int .i64 a0.den],.agg [.int .i64 a1.num,.int .i64 a1.den]]=some (.agg [.int .i64 r.num,.int .i64 r.den],false):=atZ rfl rfl (atE rfl rfl (W64 h) (by first | rfl | simp only [go_sem,seval])) (by first | rfl | simp only [go_sem,seval])
theorem Q65 {a0:GRat} {a1:GRat} {r} (h:f65 a0 a1=some r):callIso prZ (X prZ) 65 [.agg [.int .i64 a0.num,.int .i64 a0.den],.agg [.int .i64 a1.num,.int .i64 a1.den]]=some (.agg [.int .i64 r.num,.int .i64 r.den],false):=atZ rfl rfl (atE rfl rfl (W65 h) (by first | rfl | simp only [go_sem,seval])) (by first | rfl | simp only [go_sem,seval])
theorem Q66 {a0:Int} {a1:Int} {r} (h:f66 a0 a1=some r):callIso prZ (X prZ) 66 [.int .i64 a0,.int .i64 a1]=some (.agg [.int .i64 r.num,.int .i64 r.den],false):=atZ rfl rfl (atE rfl rfl (W66 h) (by first | rfl | simp only [go_sem,seval])) (by first | rfl | simp only [go_sem,seval])
noncomputable def s8_0 (a0:GBran) (v21:GQuad × Int) (v25:GQuad × Int) (v29:GQuad × Int) (v31:GQuad × Int) (v33:GQuad × Int) (v35:GQuad × Int) (v50:GRat) (v52:GRat) (v54:GRat) (v70:GRat × Int) (v72:GRat × Int) (v74:GRat × Int) (v85:Int × Int) (s0:Int):Option (Int ⊕ ((Bool × Int × Int × Int × Int) ⊕ Int)):=
 cond (decide (s0≤a0.hi))
  (obind (f46 a0.x) fun v158=>
  obind (f57 v158.1 s0) fun v160=>
  obind (f46 a0.y) fun v162=>
  obind (f57 v162.1 s0) fun v164=>
  cond (decide (v160.2=0))
   (cond (decide (v164.2=0))
    (cond (decide (v160.1.den < 1))
     (some (.inr (.inl (false,v160.1.num,v160.1.den,v164.1.num,v164.1.den))))
     (cond (decide (v164.1.den < 1))
      (some (.inr (.inl (false,v160.1.num,v160.1.den,v164.1.num,v164.1.den))))
      (cond (decide (v160.1.num < 0))
       (some (.inr (.inl (false,v160.1.num,v160.1.den,v164.1.num,v164.1.den))))
       (cond (decide (v164.1.num < 0))
        (some (.inr (.inl (false,v160.1.num,v160.1.den,v164.1.num,v164.1.den))))
        (cond (decide (v85.2=0))
         (cond (decide (s0=v85.1))
          (obind (f58 200 v164.1 v160.1) fun v174=>
          cond v174
           (some (.inr (.inl (false,v160.1.num,v160.1.den,v164.1.num,v164.1.den))))
           (cond (decide (s0 < v85.1))
            (some (.inr (.inl (false,v160.1.num,v160.1.den,v164.1.num,v164.1.den))))
            (cond (decide (v85.2=7))
             (some (.inr (.inl (false,v160.1.num,v160.1.den,v164.1.num,v164.1.den))))
             (some (.inl (wrapF .i64 (s0 + 1)))))))
          (cond (decide (s0 < v85.1))
           (obind (f58 200 v164.1 v160.1) fun v180=>
           cond v180
            (cond (decide (v85.2=7))
             (some (.inl (wrapF .i64 (s0 + 1))))
             (some (.inl (wrapF .i64 (s0 + 1)))))
            (some (.inr (.inl (false,v160.1.num,v160.1.den,v164.1.num,v164.1.den)))))
           (cond (decide (v85.2=7))
            (obind (f58 200 v164.1 v160.1) fun v185=>
            cond v185
             (some (.inl (wrapF .i64 (s0 + 1))))
             (some (.inr (.inl (false,v160.1.num,v160.1.den,v164.1.num,v164.1.den)))))
            (some (.inl (wrapF .i64 (s0 + 1)))))))
         (cond (decide (v85.2=7))
          (obind (f58 200 v164.1 v160.1) fun v189=>
          cond v189
           (some (.inl (wrapF .i64 (s0 + 1))))
           (some (.inr (.inl (false,v160.1.num,v160.1.den,v164.1.num,v164.1.den)))))
          (some (.inl (wrapF .i64 (s0 + 1))))))))))
    (some (.inr (.inl (decide (v85.2=17),v160.1.num,v160.1.den,v164.1.num,v164.1.den)))))
   (some (.inr (.inl (decide (v85.2=17),v160.1.num,v160.1.den,v164.1.num,v164.1.den)))))
  (some (.inr (.inr s0)))
def St8_0 (a0:GBran) (v21:GQuad × Int) (v25:GQuad × Int) (v29:GQuad × Int) (v31:GQuad × Int) (v33:GQuad × Int) (v35:GQuad × Int) (v50:GRat) (v52:GRat) (v54:GRat) (v70:GRat × Int) (v72:GRat × Int) (v74:GRat × Int) (v85:Int × Int) (s0:Int):ASt:=⟨[(1,.vptr (.agg [sl 3 vel a0.x,sl 3 vel a0.y,.int .i64 a0.lo,.int .i64 a0.hi]),false),(24,.int .i64 v85.1,false),(25,.int .i64 v85.2,false),(26,.int .i64 s0,false)],[.cells [(.int .i64 v21.1.a,false),(.int .i64 v21.1.b,false),(.int .i64 v21.1.c,false),(.int .i64 v21.1.d,false)],.cells [(.int .i64 v25.1.a,false),(.int .i64 v25.1.b,false),(.int .i64 v25.1.c,false),(.int .i64 v25.1.d,false)],.cells [(.int .i64 v29.1.a,false),(.int .i64 v29.1.b,false),(.int .i64 v29.1.c,false),(.int .i64 v29.1.d,false)],.cells [(.int .i64 v31.1.a,false),(.int .i64 v31.1.b,false),(.int .i64 v31.1.c,false),(.int .i64 v31.1.d,false)],.cells [(.int .i64 v33.1.a,false),(.int .i64 v33.1.b,false),(.int .i64 v33.1.c,false),(.int .i64 v33.1.d,false)],.cells [(.int .i64 v35.1.a,false),(.int .i64 v35.1.b,false),(.int .i64 v35.1.c,false),(.int .i64 v35.1.d,false)],.cells [(.int .i64 v50.num,false),(.int .i64 v50.den,false)],.cells [(.int .i64 v52.num,false),(.int .i64 v52.den,false)],.cells [(.int .i64 v54.num,false),(.int .i64 v54.den,false)],.cells [(.int .i64 v70.1.num,false),(.int .i64 v70.1.den,false)],.cells [(.int .i64 v72.1.num,false),(.int .i64 v72.1.den,false)],.cells [(.int .i64 v74.1.num,false),(.int .i64 v74.1.den,false)]]⟩
def Ex8_0 (a0:GBran) (v21:GQuad × Int) (v25:GQuad × Int) (v29:GQuad × Int) (v31:GQuad × Int) (v33:GQuad × Int) (v35:GQuad × Int) (v50:GRat) (v52:GRat) (v54:GRat) (v70:GRat × Int) (v72:GRat × Int) (v74:GRat × Int) (v85:Int × Int):(Bool × Int × Int × Int × Int) ⊕ Int→AExit × ASt
 | .inl d=>(.ret,⟨[(2,.bool d.1,false)],[.cells [(.int .i64 v21.1.a,false),(.int .i64 v21.1.b,false),(.int .i64 v21.1.c,false),(.int .i64 v21.1.d,false)],.cells [(.int .i64 v25.1.a,false),(.int .i64 v25.1.b,false),(.int .i64 v25.1.c,false),(.int .i64 v25.1.d,false)],.cells [(.int .i64 v29.1.a,false),(.int .i64 v29.1.b,false),(.int .i64 v29.1.c,false),(.int .i64 v29.1.d,false)],.cells [(.int .i64 v31.1.a,false),(.int .i64 v31.1.b,false),(.int .i64 v31.1.c,false),(.int .i64 v31.1.d,false)],.cells [(.int .i64 v33.1.a,false),(.int .i64 v33.1.b,false),(.int .i64 v33.1.c,false),(.int .i64 v33.1.d,false)],.cells [(.int .i64 v35.1.a,false),(.int .i64 v35.1.b,false),(.int .i64 v35.1.c,false),(.int .i64 v35.1.d,false)],.cells [(.int .i64 v50.num,false),(.int .i64 v50.den,false)],.cells [(.int .i64 v52.num,false),(.int .i64 v52.den,false)],.cells [(.int .i64 v54.num,false),(.int .i64 v54.den,false)],.cells [(.int .i64 v70.1.num,false),(.int .i64 v70.1.den,false)],.cells [(.int .i64 v72.1.num,false),(.int .i64 v72.1.den,false)],.cells [(.int .i64 v74.1.num,false),(.int .i64 v74.1.den,false)],.cells [(.int .i64 d.2.1,false),(.int .i64 d.2.2.1,false)],.cells [(.int .i64 d.2.2.2.1,false),(.int .i64 d.2.2.2.2,false)]]⟩)
 | .inr d=>(.exit 0,⟨[(1,.vptr (.agg [sl 3 vel a0.x,sl 3 vel a0.y,.int .i64 a0.lo,.int .i64 a0.hi]),false),(24,.int .i64 v85.1,false),(25,.int .i64 v85.2,false),(26,.int .i64 d,false),(333,.bool false,false)],[.cells [(.int .i64 v21.1.a,false),(.int .i64 v21.1.b,false),(.int .i64 v21.1.c,false),(.int .i64 v21.1.d,false)],.cells [(.int .i64 v25.1.a,false),(.int .i64 v25.1.b,false),(.int .i64 v25.1.c,false),(.int .i64 v25.1.d,false)],.cells [(.int .i64 v29.1.a,false),(.int .i64 v29.1.b,false),(.int .i64 v29.1.c,false),(.int .i64 v29.1.d,false)],.cells [(.int .i64 v31.1.a,false),(.int .i64 v31.1.b,false),(.int .i64 v31.1.c,false),(.int .i64 v31.1.d,false)],.cells [(.int .i64 v33.1.a,false),(.int .i64 v33.1.b,false),(.int .i64 v33.1.c,false),(.int .i64 v33.1.d,false)],.cells [(.int .i64 v35.1.a,false),(.int .i64 v35.1.b,false),(.int .i64 v35.1.c,false),(.int .i64 v35.1.d,false)],.cells [(.int .i64 v50.num,false),(.int .i64 v50.den,false)],.cells [(.int .i64 v52.num,false),(.int .i64 v52.den,false)],.cells [(.int .i64 v54.num,false),(.int .i64 v54.den,false)],.cells [(.int .i64 v70.1.num,false),(.int .i64 v70.1.den,false)],.cells [(.int .i64 v72.1.num,false),(.int .i64 v72.1.den,false)],.cells [(.int .i64 v74.1.num,false),(.int .i64 v74.1.den,false)]]⟩)
theorem b8_0 (a0:GBran) (v21:GQuad × Int) (v25:GQuad × Int) (v29:GQuad × Int) (v31:GQuad × Int) (v33:GQuad × Int) (v35:GQuad × Int) (v50:GRat) (v52:GRat) (v54:GRat) (v70:GRat × Int) (v72:GRat × Int) (v74:GRat × Int) (v85:Int × Int) (s0:Int) (r) (h:s8_0 a0 v21 v25 v29 v31 v33 v35 v50 v52 v54 v70 v72 v74 v85 s0=some r):stepO prZ c8_0 (St8_0 a0 v21 v25 v29 v31 v33 v35 v50 v52 v54 v70 v72 v74 v85) (Ex8_0 a0 v21 v25 v29 v31 v33 v35 v50 v52 v54 v70 v72 v74 v85) s0 r:=by
 unfold s8_0 at h
 rcases cond_split h with ⟨h157,h⟩ | ⟨h157,h⟩
 ·obtain ⟨v158,h159,h⟩:=obind_some h
  have wh159:callIso prZ (X prZ) 46 [sl 3 vel a0.x]=some (sl 3 vel v158.1,v158.2):=Q46 h159
  obtain ⟨v160,h161,h⟩:=obind_some h
  have wh161:callIso prZ (X prZ) 57 [sl 3 vel v158.1,.int .i64 s0]=some (.tup [.agg [.int .i64 v160.1.num,.int .i64 v160.1.den],.int .i64 v160.2],false):=Q57 h161
  obtain ⟨v162,h163,h⟩:=obind_some h
  have wh163:callIso prZ (X prZ) 46 [sl 3 vel a0.y]=some (sl 3 vel v162.1,v162.2):=Q46 h163
  obtain ⟨v164,h165,h⟩:=obind_some h
  have wh165:callIso prZ (X prZ) 57 [sl 3 vel v162.1,.int .i64 s0]=some (.tup [.agg [.int .i64 v164.1.num,.int .i64 v164.1.den],.int .i64 v164.2],false):=Q57 h165
  rcases cond_split h with ⟨h166,h⟩ | ⟨h166,h⟩
  ·rcases cond_split h with ⟨h167,h⟩ | ⟨h167,h⟩
   ·rcases cond_split h with ⟨h168,h⟩ | ⟨h168,h⟩
    ·cases h
     exact stepO_out (by simp only [go_sem,seval,c8_0,St8_0,h157,wh159,wh161,wh163,wh165,h166,h167,h168,Ex8_0] <;> rfl)
    ·rcases cond_split h with ⟨h169,h⟩ | ⟨h169,h⟩
     ·cases h
      exact stepO_out (by simp only [go_sem,seval,c8_0,St8_0,h157,wh159,wh161,wh163,wh165,h166,h167,h168,h169,Ex8_0] <;> rfl)
     ·rcases cond_split h with ⟨h170,h⟩ | ⟨h170,h⟩
      ·cases h
       exact stepO_out (by simp only [go_sem,seval,c8_0,St8_0,h157,wh159,wh161,wh163,wh165,h166,h167,h168,h169,h170,Ex8_0] <;> rfl)
      ·rcases cond_split h with ⟨h171,h⟩ | ⟨h171,h⟩
       ·cases h
        exact stepO_out (by simp only [go_sem,seval,c8_0,St8_0,h157,wh159,wh161,wh163,wh165,h166,h167,h168,h169,h170,h171,Ex8_0] <;> rfl)
       ·rcases cond_split h with ⟨h172,h⟩ | ⟨h172,h⟩
        ·rcases cond_split h with ⟨h173,h⟩ | ⟨h173,h⟩
         ·obtain ⟨v174,h175,h⟩:=obind_some h
          have wh175:callIso prZ (X prZ) 58 [.agg [.int .i64 v164.1.num,.int .i64 v164.1.den],.agg [.int .i64 v160.1.num,.int .i64 v160.1.den]]=some (.bool v174,false):=Q58 h175
          rcases cond_split h with ⟨h176,h⟩ | ⟨h176,h⟩
          ·cases h
           exact stepO_out (by simp only [go_sem,seval,c8_0,St8_0,h157,wh159,wh161,wh163,wh165,h166,h167,h168,h169,h170,h171,h172,h173,wh175,h176,Ex8_0] <;> rfl)
          ·rcases cond_split h with ⟨h177,h⟩ | ⟨h177,h⟩
           ·cases h
            exact stepO_out (by simp only [go_sem,seval,c8_0,St8_0,h157,wh159,wh161,wh163,wh165,h166,h167,h168,h169,h170,h171,h172,h173,wh175,h176,h177,Ex8_0] <;> rfl)
           ·rcases cond_split h with ⟨h178,h⟩ | ⟨h178,h⟩
            ·cases h
             exact stepO_out (by simp only [go_sem,seval,c8_0,St8_0,h157,wh159,wh161,wh163,wh165,h166,h167,h168,h169,h170,h171,h172,h173,wh175,h176,h177,h178,Ex8_0] <;> rfl)
            ·cases h
             exact stepO_in (st':=⟨[(1,.vptr (.agg [sl 3 vel a0.x,sl 3 vel a0.y,.int .i64 a0.lo,.int .i64 a0.hi]),false),(24,.int .i64 v85.1,false),(25,.int .i64 v85.2,false),(26,.int .i64 (wrapF .i64 (s0 + 1)),false)],[.cells [(.int .i64 v21.1.a,false),(.int .i64 v21.1.b,false),(.int .i64 v21.1.c,false),(.int .i64 v21.1.d,false)],.cells [(.int .i64 v25.1.a,false),(.int .i64 v25.1.b,false),(.int .i64 v25.1.c,false),(.int .i64 v25.1.d,false)],.cells [(.int .i64 v29.1.a,false),(.int .i64 v29.1.b,false),(.int .i64 v29.1.c,false),(.int .i64 v29.1.d,false)],.cells [(.int .i64 v31.1.a,false),(.int .i64 v31.1.b,false),(.int .i64 v31.1.c,false),(.int .i64 v31.1.d,false)],.cells [(.int .i64 v33.1.a,false),(.int .i64 v33.1.b,false),(.int .i64 v33.1.c,false),(.int .i64 v33.1.d,false)],.cells [(.int .i64 v35.1.a,false),(.int .i64 v35.1.b,false),(.int .i64 v35.1.c,false),(.int .i64 v35.1.d,false)],.cells [(.int .i64 v50.num,false),(.int .i64 v50.den,false)],.cells [(.int .i64 v52.num,false),(.int .i64 v52.den,false)],.cells [(.int .i64 v54.num,false),(.int .i64 v54.den,false)],.cells [(.int .i64 v70.1.num,false),(.int .i64 v70.1.den,false)],.cells [(.int .i64 v72.1.num,false),(.int .i64 v72.1.den,false)],.cells [(.int .i64 v74.1.num,false),(.int .i64 v74.1.den,false)]]++[.cells [(.int .i64 v160.1.num,false),(.int .i64 v160.1.den,false)],.cells [(.int .i64 v164.1.num,false),(.int .i64 v164.1.den,false)]]⟩) (by simp only [go_sem,seval,c8_0,St8_0,h157,wh159,wh161,wh163,wh165,h166,h167,h168,h169,h170,h171,h172,h173,wh175,h176,h177,h178] <;> rfl) (gc_over rfl rfl (by first | simp only [go_sem,seval,St8_0] | rfl) (by first | simp only [go_sem,seval,St8_0] | rfl))
         ·rcases cond_split h with ⟨h179,h⟩ | ⟨h179,h⟩
          ·obtain ⟨v180,h181,h⟩:=obind_some h
           have wh181:callIso prZ (X prZ) 58 [.agg [.int .i64 v164.1.num,.int .i64 v164.1.den],.agg [.int .i64 v160.1.num,.int .i64 v160.1.den]]=some (.bool v180,false):=Q58 h181
           rcases cond_split h with ⟨h182,h⟩ | ⟨h182,h⟩
           ·rcases cond_split h with ⟨h183,h⟩ | ⟨h183,h⟩
            ·cases h
             exact stepO_in (st':=⟨[(1,.vptr (.agg [sl 3 vel a0.x,sl 3 vel a0.y,.int .i64 a0.lo,.int .i64 a0.hi]),false),(24,.int .i64 v85.1,false),(25,.int .i64 v85.2,false),(26,.int .i64 (wrapF .i64 (s0 + 1)),false)],[.cells [(.int .i64 v21.1.a,false),(.int .i64 v21.1.b,false),(.int .i64 v21.1.c,false),(.int .i64 v21.1.d,false)],.cells [(.int .i64 v25.1.a,false),(.int .i64 v25.1.b,false),(.int .i64 v25.1.c,false),(.int .i64 v25.1.d,false)],.cells [(.int .i64 v29.1.a,false),(.int .i64 v29.1.b,false),(.int .i64 v29.1.c,false),(.int .i64 v29.1.d,false)],.cells [(.int .i64 v31.1.a,false),(.int .i64 v31.1.b,false),(.int .i64 v31.1.c,false),(.int .i64 v31.1.d,false)],.cells [(.int .i64 v33.1.a,false),(.int .i64 v33.1.b,false),(.int .i64 v33.1.c,false),(.int .i64 v33.1.d,false)],.cells [(.int .i64 v35.1.a,false),(.int .i64 v35.1.b,false),(.int .i64 v35.1.c,false),(.int .i64 v35.1.d,false)],.cells [(.int .i64 v50.num,false),(.int .i64 v50.den,false)],.cells [(.int .i64 v52.num,false),(.int .i64 v52.den,false)],.cells [(.int .i64 v54.num,false),(.int .i64 v54.den,false)],.cells [(.int .i64 v70.1.num,false),(.int .i64 v70.1.den,false)],.cells [(.int .i64 v72.1.num,false),(.int .i64 v72.1.den,false)],.cells [(.int .i64 v74.1.num,false),(.int .i64 v74.1.den,false)]]++[.cells [(.int .i64 v160.1.num,false),(.int .i64 v160.1.den,false)],.cells [(.int .i64 v164.1.num,false),(.int .i64 v164.1.den,false)]]⟩) (by simp only [go_sem,seval,c8_0,St8_0,h157,wh159,wh161,wh163,wh165,h166,h167,h168,h169,h170,h171,h172,h173,h179,wh181,h182,h183] <;> rfl) (gc_over rfl rfl (by first | simp only [go_sem,seval,St8_0] | rfl) (by first | simp only [go_sem,seval,St8_0] | rfl))
            ·cases h
             exact stepO_in (st':=⟨[(1,.vptr (.agg [sl 3 vel a0.x,sl 3 vel a0.y,.int .i64 a0.lo,.int .i64 a0.hi]),false),(24,.int .i64 v85.1,false),(25,.int .i64 v85.2,false),(26,.int .i64 (wrapF .i64 (s0 + 1)),false)],[.cells [(.int .i64 v21.1.a,false),(.int .i64 v21.1.b,false),(.int .i64 v21.1.c,false),(.int .i64 v21.1.d,false)],.cells [(.int .i64 v25.1.a,false),(.int .i64 v25.1.b,false),(.int .i64 v25.1.c,false),(.int .i64 v25.1.d,false)],.cells [(.int .i64 v29.1.a,false),(.int .i64 v29.1.b,false),(.int .i64 v29.1.c,false),(.int .i64 v29.1.d,false)],.cells [(.int .i64 v31.1.a,false),(.int .i64 v31.1.b,false),(.int .i64 v31.1.c,false),(.int .i64 v31.1.d,false)],.cells [(.int .i64 v33.1.a,false),(.int .i64 v33.1.b,false),(.int .i64 v33.1.c,false),(.int .i64 v33.1.d,false)],.cells [(.int .i64 v35.1.a,false),(.int .i64 v35.1.b,false),(.int .i64 v35.1.c,false),(.int .i64 v35.1.d,false)],.cells [(.int .i64 v50.num,false),(.int .i64 v50.den,false)],.cells [(.int .i64 v52.num,false),(.int .i64 v52.den,false)],.cells [(.int .i64 v54.num,false),(.int .i64 v54.den,false)],.cells [(.int .i64 v70.1.num,false),(.int .i64 v70.1.den,false)],.cells [(.int .i64 v72.1.num,false),(.int .i64 v72.1.den,false)],.cells [(.int .i64 v74.1.num,false),(.int .i64 v74.1.den,false)]]++[.cells [(.int .i64 v160.1.num,false),(.int .i64 v160.1.den,false)],.cells [(.int .i64 v164.1.num,false),(.int .i64 v164.1.den,false)]]⟩) (by simp only [go_sem,seval,c8_0,St8_0,h157,wh159,wh161,wh163,wh165,h166,h167,h168,h169,h170,h171,h172,h173,h179,wh181,h182,h183] <;> rfl) (gc_over rfl rfl (by first | simp only [go_sem,seval,St8_0] | rfl) (by first | simp only [go_sem,seval,St8_0] | rfl))
           ·cases h
            exact stepO_out (by simp only [go_sem,seval,c8_0,St8_0,h157,wh159,wh161,wh163,wh165,h166,h167,h168,h169,h170,h171,h172,h173,h179,wh181,h182,Ex8_0] <;> rfl)
          ·rcases cond_split h with ⟨h184,h⟩ | ⟨h184,h⟩
           ·obtain ⟨v185,h186,h⟩:=obind_some h
            have wh186:callIso prZ (X prZ) 58 [.agg [.int .i64 v164.1.num,.int .i64 v164.1.den],.agg [.int .i64 v160.1.num,.int .i64 v160.1.den]]=some (.bool v185,false):=Q58 h186
            rcases cond_split h with ⟨h187,h⟩ | ⟨h187,h⟩
            ·cases h
             exact stepO_in (st':=⟨[(1,.vptr (.agg [sl 3 vel a0.x,sl 3 vel a0.y,.int .i64 a0.lo,.int .i64 a0.hi]),false),(24,.int .i64 v85.1,false),(25,.int .i64 v85.2,false),(26,.int .i64 (wrapF .i64 (s0 + 1)),false)],[.cells [(.int .i64 v21.1.a,false),(.int .i64 v21.1.b,false),(.int .i64 v21.1.c,false),(.int .i64 v21.1.d,false)],.cells [(.int .i64 v25.1.a,false),(.int .i64 v25.1.b,false),(.int .i64 v25.1.c,false),(.int .i64 v25.1.d,false)],.cells [(.int .i64 v29.1.a,false),(.int .i64 v29.1.b,false),(.int .i64 v29.1.c,false),(.int .i64 v29.1.d,false)],.cells [(.int .i64 v31.1.a,false),(.int .i64 v31.1.b,false),(.int .i64 v31.1.c,false),(.int .i64 v31.1.d,false)],.cells [(.int .i64 v33.1.a,false),(.int .i64 v33.1.b,false),(.int .i64 v33.1.c,false),(.int .i64 v33.1.d,false)],.cells [(.int .i64 v35.1.a,false),(.int .i64 v35.1.b,false),(.int .i64 v35.1.c,false),(.int .i64 v35.1.d,false)],.cells [(.int .i64 v50.num,false),(.int .i64 v50.den,false)],.cells [(.int .i64 v52.num,false),(.int .i64 v52.den,false)],.cells [(.int .i64 v54.num,false),(.int .i64 v54.den,false)],.cells [(.int .i64 v70.1.num,false),(.int .i64 v70.1.den,false)],.cells [(.int .i64 v72.1.num,false),(.int .i64 v72.1.den,false)],.cells [(.int .i64 v74.1.num,false),(.int .i64 v74.1.den,false)]]++[.cells [(.int .i64 v160.1.num,false),(.int .i64 v160.1.den,false)],.cells [(.int .i64 v164.1.num,false),(.int .i64 v164.1.den,false)]]⟩) (by simp only [go_sem,seval,c8_0,St8_0,h157,wh159,wh161,wh163,wh165,h166,h167,h168,h169,h170,h171,h172,h173,h179,h184,wh186,h187] <;> rfl) (gc_over rfl rfl (by first | simp only [go_sem,seval,St8_0] | rfl) (by first | simp only [go_sem,seval,St8_0] | rfl))
            ·cases h
             exact stepO_out (by simp only [go_sem,seval,c8_0,St8_0,h157,wh159,wh161,wh163,wh165,h166,h167,h168,h169,h170,h171,h172,h173,h179,h184,wh186,h187,Ex8_0] <;> rfl)
           ·cases h
            exact stepO_in (st':=⟨[(1,.vptr (.agg [sl 3 vel a0.x,sl 3 vel a0.y,.int .i64 a0.lo,.int .i64 a0.hi]),false),(24,.int .i64 v85.1,false),(25,.int .i64 v85.2,false),(26,.int .i64 (wrapF .i64 (s0 + 1)),false)],[.cells [(.int .i64 v21.1.a,false),(.int .i64 v21.1.b,false),(.int .i64 v21.1.c,false),(.int .i64 v21.1.d,false)],.cells [(.int .i64 v25.1.a,false),(.int .i64 v25.1.b,false),(.int .i64 v25.1.c,false),(.int .i64 v25.1.d,false)],.cells [(.int .i64 v29.1.a,false),(.int .i64 v29.1.b,false),(.int .i64 v29.1.c,false),(.int .i64 v29.1.d,false)],.cells [(.int .i64 v31.1.a,false),(.int .i64 v31.1.b,false),(.int .i64 v31.1.c,false),(.int .i64 v31.1.d,false)],.cells [(.int .i64 v33.1.a,false),(.int .i64 v33.1.b,false),(.int .i64 v33.1.c,false),(.int .i64 v33.1.d,false)],.cells [(.int .i64 v35.1.a,false),(.int .i64 v35.1.b,false),(.int .i64 v35.1.c,false),(.int .i64 v35.1.d,false)],.cells [(.int .i64 v50.num,false),(.int .i64 v50.den,false)],.cells [(.int .i64 v52.num,false),(.int .i64 v52.den,false)],.cells [(.int .i64 v54.num,false),(.int .i64 v54.den,false)],.cells [(.int .i64 v70.1.num,false),(.int .i64 v70.1.den,false)],.cells [(.int .i64 v72.1.num,false),(.int .i64 v72.1.den,false)],.cells [(.int .i64 v74.1.num,false),(.int .i64 v74.1.den,false)]]++[.cells [(.int .i64 v160.1.num,false),(.int .i64 v160.1.den,false)],.cells [(.int .i64 v164.1.num,false),(.int .i64 v164.1.den,false)]]⟩) (by simp only [go_sem,seval,c8_0,St8_0,h157,wh159,wh161,wh163,wh165,h166,h167,h168,h169,h170,h171,h172,h173,h179,h184] <;> rfl) (gc_over rfl rfl (by first | simp only [go_sem,seval,St8_0] | rfl) (by first | simp only [go_sem,seval,St8_0] | rfl))
        ·rcases cond_split h with ⟨h188,h⟩ | ⟨h188,h⟩
         ·obtain ⟨v189,h190,h⟩:=obind_some h
          have wh190:callIso prZ (X prZ) 58 [.agg [.int .i64 v164.1.num,.int .i64 v164.1.den],.agg [.int .i64 v160.1.num,.int .i64 v160.1.den]]=some (.bool v189,false):=Q58 h190
          rcases cond_split h with ⟨h191,h⟩ | ⟨h191,h⟩
          ·cases h
           exact stepO_in (st':=⟨[(1,.vptr (.agg [sl 3 vel a0.x,sl 3 vel a0.y,.int .i64 a0.lo,.int .i64 a0.hi]),false),(24,.int .i64 v85.1,false),(25,.int .i64 v85.2,false),(26,.int .i64 (wrapF .i64 (s0 + 1)),false)],[.cells [(.int .i64 v21.1.a,false),(.int .i64 v21.1.b,false),(.int .i64 v21.1.c,false),(.int .i64 v21.1.d,false)],.cells [(.int .i64 v25.1.a,false),(.int .i64 v25.1.b,false),(.int .i64 v25.1.c,false),(.int .i64 v25.1.d,false)],.cells [(.int .i64 v29.1.a,false),(.int .i64 v29.1.b,false),(.int .i64 v29.1.c,false),(.int .i64 v29.1.d,false)],.cells [(.int .i64 v31.1.a,false),(.int .i64 v31.1.b,false),(.int .i64 v31.1.c,false),(.int .i64 v31.1.d,false)],.cells [(.int .i64 v33.1.a,false),(.int .i64 v33.1.b,false),(.int .i64 v33.1.c,false),(.int .i64 v33.1.d,false)],.cells [(.int .i64 v35.1.a,false),(.int .i64 v35.1.b,false),(.int .i64 v35.1.c,false),(.int .i64 v35.1.d,false)],.cells [(.int .i64 v50.num,false),(.int .i64 v50.den,false)],.cells [(.int .i64 v52.num,false),(.int .i64 v52.den,false)],.cells [(.int .i64 v54.num,false),(.int .i64 v54.den,false)],.cells [(.int .i64 v70.1.num,false),(.int .i64 v70.1.den,false)],.cells [(.int .i64 v72.1.num,false),(.int .i64 v72.1.den,false)],.cells [(.int .i64 v74.1.num,false),(.int .i64 v74.1.den,false)]]++[.cells [(.int .i64 v160.1.num,false),(.int .i64 v160.1.den,false)],.cells [(.int .i64 v164.1.num,false),(.int .i64 v164.1.den,false)]]⟩) (by simp only [go_sem,seval,c8_0,St8_0,h157,wh159,wh161,wh163,wh165,h166,h167,h168,h169,h170,h171,h172,h188,wh190,h191] <;> rfl) (gc_over rfl rfl (by first | simp only [go_sem,seval,St8_0] | rfl) (by first | simp only [go_sem,seval,St8_0] | rfl))
          ·cases h
           exact stepO_out (by simp only [go_sem,seval,c8_0,St8_0,h157,wh159,wh161,wh163,wh165,h166,h167,h168,h169,h170,h171,h172,h188,wh190,h191,Ex8_0] <;> rfl)
         ·cases h
          exact stepO_in (st':=⟨[(1,.vptr (.agg [sl 3 vel a0.x,sl 3 vel a0.y,.int .i64 a0.lo,.int .i64 a0.hi]),false),(24,.int .i64 v85.1,false),(25,.int .i64 v85.2,false),(26,.int .i64 (wrapF .i64 (s0 + 1)),false)],[.cells [(.int .i64 v21.1.a,false),(.int .i64 v21.1.b,false),(.int .i64 v21.1.c,false),(.int .i64 v21.1.d,false)],.cells [(.int .i64 v25.1.a,false),(.int .i64 v25.1.b,false),(.int .i64 v25.1.c,false),(.int .i64 v25.1.d,false)],.cells [(.int .i64 v29.1.a,false),(.int .i64 v29.1.b,false),(.int .i64 v29.1.c,false),(.int .i64 v29.1.d,false)],.cells [(.int .i64 v31.1.a,false),(.int .i64 v31.1.b,false),(.int .i64 v31.1.c,false),(.int .i64 v31.1.d,false)],.cells [(.int .i64 v33.1.a,false),(.int .i64 v33.1.b,false),(.int .i64 v33.1.c,false),(.int .i64 v33.1.d,false)],.cells [(.int .i64 v35.1.a,false),(.int .i64 v35.1.b,false),(.int .i64 v35.1.c,false),(.int .i64 v35.1.d,false)],.cells [(.int .i64 v50.num,false),(.int .i64 v50.den,false)],.cells [(.int .i64 v52.num,false),(.int .i64 v52.den,false)],.cells [(.int .i64 v54.num,false),(.int .i64 v54.den,false)],.cells [(.int .i64 v70.1.num,false),(.int .i64 v70.1.den,false)],.cells [(.int .i64 v72.1.num,false),(.int .i64 v72.1.den,false)],.cells [(.int .i64 v74.1.num,false),(.int .i64 v74.1.den,false)]]++[.cells [(.int .i64 v160.1.num,false),(.int .i64 v160.1.den,false)],.cells [(.int .i64 v164.1.num,false),(.int .i64 v164.1.den,false)]]⟩) (by simp only [go_sem,seval,c8_0,St8_0,h157,wh159,wh161,wh163,wh165,h166,h167,h168,h169,h170,h171,h172,h188] <;> rfl) (gc_over rfl rfl (by first | simp only [go_sem,seval,St8_0] | rfl) (by first | simp only [go_sem,seval,St8_0] | rfl))
   ·cases h
    exact stepO_out (by simp only [go_sem,seval,c8_0,St8_0,h157,wh159,wh161,wh163,wh165,h166,h167,Ex8_0] <;> rfl)
  ·cases h
   exact stepO_out (by simp only [go_sem,seval,c8_0,St8_0,h157,wh159,wh161,wh163,wh165,h166,Ex8_0] <;> rfl)
 ·cases h
  exact stepO_out (by simp only [go_sem,seval,c8_0,St8_0,h157,Ex8_0] <;> rfl)
theorem l8_0 (a0:GBran) (v21:GQuad × Int) (v25:GQuad × Int) (v29:GQuad × Int) (v31:GQuad × Int) (v33:GQuad × Int) (v35:GQuad × Int) (v50:GRat) (v52:GRat) (v54:GRat) (v70:GRat × Int) (v72:GRat × Int) (v74:GRat × Int) (v85:Int × Int) {s0:Int} {d} (h:itO (s8_0 a0 v21 v25 v29 v31 v33 v35 v50 v52 v54 v70 v72 v74 v85) s0=some d):X prZ (.loop c8_0) (St8_0 a0 v21 v25 v29 v31 v33 v35 v50 v52 v54 v70 v72 v74 v85 s0)=some (Ex8_0 a0 v21 v25 v29 v31 v33 v35 v50 v52 v54 v70 v72 v74 v85 d):=X_itO (b8_0 a0 v21 v25 v29 v31 v33 v35 v50 v52 v54 v70 v72 v74 v85) (fun d=>by rcases d with d|d <;> (intro hh; cases hh)) h
noncomputable def f8 (a0:GBran):Option Bool:=
 obind (E16) fun v1=>
 cond v1
  (obind (f44 a0.x) fun v4=>
  cond v4
   (obind (f44 a0.y) fun v7=>
   cond v7
    (obind (f49 a0.x) fun v10=>
    cond (decide (v10=0))
     (obind (f49 a0.y) fun v13=>
     cond (decide (v13=0))
      (obind (f50 a0.lo a0.hi) fun v16=>
      cond (decide (v16=0))
       (obind (f46 a0.x) fun v19=>
       obind (f60 v19.1 a0.lo) fun v21=>
       obind (f46 a0.y) fun v23=>
       obind (f60 v23.1 a0.lo) fun v25=>
       cond (decide (v21.2=0))
        (cond (decide (v25.2=0))
         (obind (f45 v19.1 v23.1 a0.lo false) fun v29=>
         obind (f45 v23.1 v19.1 a0.lo false) fun v31=>
         obind (f45 v19.1 v23.1 a0.lo true) fun v33=>
         obind (f45 v23.1 v19.1 a0.lo true) fun v35=>
         cond (decide ((wrapF .i64 ((wrapF .i64 ((wrapF .i64 (v29.2 + v31.2)) + v33.2)) + v35.2))=0))
          (obind (f61 (⟨v21.1.a,v21.1.b,v21.1.c,v21.1.d,v25.1.a,v25.1.b,v25.1.c,v25.1.d⟩)) fun v38=>
          cond (decide (v38=0))
           (obind (f62 v29.1) fun v41=>
           cond v41
            (obind (f62 v33.1) fun v44=>
            cond v44
             (cond (decide (v29.1.a=v31.1.a) && decide (v29.1.b=v31.1.b) && decide (v29.1.c=v31.1.c) && decide (v29.1.d=v31.1.d))
              (cond (decide (v35.1.c=v33.1.c) && decide (v35.1.d=v33.1.d))
               (cond (decide (v35.1.a=(wrapF .i64 (0 - v33.1.a))) && decide (v35.1.b=(wrapF .i64 (0 - v33.1.b))))
                (obind (f63 (⟨v21.1.c,v21.1.d⟩) (⟨v25.1.c,v25.1.d⟩)) fun v50=>
                obind (f63 (⟨v21.1.a,v21.1.b⟩) (⟨v25.1.c,v25.1.d⟩)) fun v52=>
                obind (f63 (⟨v25.1.a,v25.1.b⟩) (⟨v21.1.c,v21.1.d⟩)) fun v54=>
                obind (f64 v52 v54) fun v56=>
                obind (f63 v56 (⟨v29.1.c,v29.1.d⟩)) fun v58=>
                obind (f63 (⟨v29.1.a,v29.1.b⟩) v50) fun v60=>
                cond (decide (v58.num=v60.num) && decide (v58.den=v60.den))
                 (obind (f65 v52 v54) fun v63=>
                 obind (f63 v63 (⟨v33.1.c,v33.1.d⟩)) fun v65=>
                 obind (f63 (⟨v33.1.a,v33.1.b⟩) v50) fun v67=>
                 cond (decide (v65.num=v67.num) && decide (v65.den=v67.den))
                  (obind (f57 v19.1 a0.lo) fun v70=>
                  obind (f47 v19.1 v19.1 a0.lo false) fun v72=>
                  obind (f47 v19.1 v19.1 a0.lo true) fun v74=>
                  cond (decide ((wrapF .i64 ((wrapF .i64 (v70.2 + v72.2)) + v74.2))=0))
                   (cond (decide (v70.1.den < 1))
                    (some false)
                    (cond (decide (100000000 < v70.1.den))
                     (some false)
                     (cond (decide (v70.1.num < 0))
                      (some false)
                      (cond (decide (100000000 < v70.1.num))
                       (some false)
                       (obind (f66 (wrapF .i64 (4 * v70.1.num)) v70.1.den) fun v81=>
                       cond (decide (v72.1.num=v81.num) && decide (v72.1.den=v81.den))
                        (cond (decide (v74.1.num=0) && decide (v74.1.den=1))
                         (obind (f48 v19.1 v23.1 a0.lo a0.hi) fun v85=>
                         obind (itO (s8_0 a0 v21 v25 v29 v31 v33 v35 v50 v52 v54 v70 v72 v74 v85) a0.lo) fun d192=>match d192 with
                          | .inl d194=>
                           some d194.1
                          | .inr d195=>
                           cond (decide (v85.2=7))
                            (cond (decide (v85.1=0))
                             (some true)
                             (cond (decide (v85.2=0))
                              (cond (decide (a0.lo≤v85.1))
                               (some (decide (v85.1≤a0.hi)))
                               (some false))
                              (some false)))
                            (cond (decide (v85.2=0))
                             (cond (decide (a0.lo≤v85.1))
                              (some (decide (v85.1≤a0.hi)))
                              (some false))
                             (some false)))
                         (some false))
                        (some false))))))
                   (some false))
                  (some false))
                 (some false))
                (some false))
               (some false))
              (some false))
             (some false))
            (some false))
           (some false))
          (some false))
         (cond (decide (v21.2=17))
          (some true)
          (some (decide (v25.2=17)))))
        (cond (decide (v21.2=17))
         (some true)
         (some (decide (v25.2=17)))))
       (some v1))
      (some v1))
     (some v1))
    (some v1))
   (some v1))
  (some v1)
theorem W8 {a0:GBran} {r} (h:f8 a0=some r):callIso prZ (X prZ) 8 [.agg [sl 3 vel a0.x,sl 3 vel a0.y,.int .i64 a0.lo,.int .i64 a0.hi]]=some (.bool r,false):=by
 unfold f8 at h
 obtain ⟨v1,h2,h⟩:=obind_some h
 rcases cond_split h with ⟨h3,h⟩ | ⟨h3,h⟩
 ·obtain ⟨v4,h5,h⟩:=obind_some h
  have wh5:callIso prZ (X prZ) 44 [sl 3 vel a0.x]=some (.bool v4,false):=Q44 h5
  rcases cond_split h with ⟨h6,h⟩ | ⟨h6,h⟩
  ·obtain ⟨v7,h8,h⟩:=obind_some h
   have wh8:callIso prZ (X prZ) 44 [sl 3 vel a0.y]=some (.bool v7,false):=Q44 h8
   rcases cond_split h with ⟨h9,h⟩ | ⟨h9,h⟩
   ·obtain ⟨v10,h11,h⟩:=obind_some h
    have wh11:callIso prZ (X prZ) 49 [sl 3 vel a0.x]=some (.int .i64 v10,false):=Q49 h11
    rcases cond_split h with ⟨h12,h⟩ | ⟨h12,h⟩
    ·obtain ⟨v13,h14,h⟩:=obind_some h
     have wh14:callIso prZ (X prZ) 49 [sl 3 vel a0.y]=some (.int .i64 v13,false):=Q49 h14
     rcases cond_split h with ⟨h15,h⟩ | ⟨h15,h⟩
     ·obtain ⟨v16,h17,h⟩:=obind_some h
      have wh17:callIso prZ (X prZ) 50 [.int .i64 a0.lo,.int .i64 a0.hi]=some (.int .i64 v16,false):=Q50 h17
      rcases cond_split h with ⟨h18,h⟩ | ⟨h18,h⟩
      ·obtain ⟨v19,h20,h⟩:=obind_some h
       have wh20:callIso prZ (X prZ) 46 [sl 3 vel a0.x]=some (sl 3 vel v19.1,v19.2):=Q46 h20
       obtain ⟨v21,h22,h⟩:=obind_some h
       have wh22:callIso prZ (X prZ) 60 [sl 3 vel v19.1,.int .i64 a0.lo]=some (.tup [.agg [.int .i64 v21.1.a,.int .i64 v21.1.b,.int .i64 v21.1.c,.int .i64 v21.1.d],.int .i64 v21.2],false):=Q60 h22
       obtain ⟨v23,h24,h⟩:=obind_some h
       have wh24:callIso prZ (X prZ) 46 [sl 3 vel a0.y]=some (sl 3 vel v23.1,v23.2):=Q46 h24
       obtain ⟨v25,h26,h⟩:=obind_some h
       have wh26:callIso prZ (X prZ) 60 [sl 3 vel v23.1,.int .i64 a0.lo]=some (.tup [.agg [.int .i64 v25.1.a,.int .i64 v25.1.b,.int .i64 v25.1.c,.int .i64 v25.1.d],.int .i64 v25.2],false):=Q60 h26
       rcases cond_split h with ⟨h27,h⟩ | ⟨h27,h⟩
       ·rcases cond_split h with ⟨h28,h⟩ | ⟨h28,h⟩
        ·obtain ⟨v29,h30,h⟩:=obind_some h
         have wh30:callIso prZ (X prZ) 45 [sl 3 vel v19.1,sl 3 vel v23.1,.int .i64 a0.lo,.bool false]=some (.tup [.agg [.int .i64 v29.1.a,.int .i64 v29.1.b,.int .i64 v29.1.c,.int .i64 v29.1.d],.int .i64 v29.2],false):=Q45 h30
         obtain ⟨v31,h32,h⟩:=obind_some h
         have wh32:callIso prZ (X prZ) 45 [sl 3 vel v23.1,sl 3 vel v19.1,.int .i64 a0.lo,.bool false]=some (.tup [.agg [.int .i64 v31.1.a,.int .i64 v31.1.b,.int .i64 v31.1.c,.int .i64 v31.1.d],.int .i64 v31.2],false):=Q45 h32
         obtain ⟨v33,h34,h⟩:=obind_some h
         have wh34:callIso prZ (X prZ) 45 [sl 3 vel v19.1,sl 3 vel v23.1,.int .i64 a0.lo,.bool true]=some (.tup [.agg [.int .i64 v33.1.a,.int .i64 v33.1.b,.int .i64 v33.1.c,.int .i64 v33.1.d],.int .i64 v33.2],false):=Q45 h34
         obtain ⟨v35,h36,h⟩:=obind_some h
         have wh36:callIso prZ (X prZ) 45 [sl 3 vel v23.1,sl 3 vel v19.1,.int .i64 a0.lo,.bool true]=some (.tup [.agg [.int .i64 v35.1.a,.int .i64 v35.1.b,.int .i64 v35.1.c,.int .i64 v35.1.d],.int .i64 v35.2],false):=Q45 h36
         rcases cond_split h with ⟨h37,h⟩ | ⟨h37,h⟩
         ·obtain ⟨v38,h39,h⟩:=obind_some h
          have wh39:callIso prZ (X prZ) 61 [.agg [.int .i64 v21.1.a,.int .i64 v21.1.b,.int .i64 v21.1.c,.int .i64 v21.1.d,.int .i64 v25.1.a,.int .i64 v25.1.b,.int .i64 v25.1.c,.int .i64 v25.1.d]]=some (.int .i64 v38,false):=Q61 h39
          rcases cond_split h with ⟨h40,h⟩ | ⟨h40,h⟩
          ·obtain ⟨v41,h42,h⟩:=obind_some h
           have wh42:callIso prZ (X prZ) 62 [.agg [.int .i64 v29.1.a,.int .i64 v29.1.b,.int .i64 v29.1.c,.int .i64 v29.1.d]]=some (.bool v41,false):=Q62 h42
           rcases cond_split h with ⟨h43,h⟩ | ⟨h43,h⟩
           ·obtain ⟨v44,h45,h⟩:=obind_some h
            have wh45:callIso prZ (X prZ) 62 [.agg [.int .i64 v33.1.a,.int .i64 v33.1.b,.int .i64 v33.1.c,.int .i64 v33.1.d]]=some (.bool v44,false):=Q62 h45
            rcases cond_split h with ⟨h46,h⟩ | ⟨h46,h⟩
            ·rcases cond_split h with ⟨h47,h⟩ | ⟨h47,h⟩
             ·rcases cond_split h with ⟨h48,h⟩ | ⟨h48,h⟩
              ·rcases cond_split h with ⟨h49,h⟩ | ⟨h49,h⟩
               ·obtain ⟨v50,h51,h⟩:=obind_some h
                have wh51:callIso prZ (X prZ) 63 [.agg [.int .i64 v21.1.c,.int .i64 v21.1.d],.agg [.int .i64 v25.1.c,.int .i64 v25.1.d]]=some (.agg [.int .i64 v50.num,.int .i64 v50.den],false):=Q63 h51
                obtain ⟨v52,h53,h⟩:=obind_some h
                have wh53:callIso prZ (X prZ) 63 [.agg [.int .i64 v21.1.a,.int .i64 v21.1.b],.agg [.int .i64 v25.1.c,.int .i64 v25.1.d]]=some (.agg [.int .i64 v52.num,.int .i64 v52.den],false):=Q63 h53
                obtain ⟨v54,h55,h⟩:=obind_some h
                have wh55:callIso prZ (X prZ) 63 [.agg [.int .i64 v25.1.a,.int .i64 v25.1.b],.agg [.int .i64 v21.1.c,.int .i64 v21.1.d]]=some (.agg [.int .i64 v54.num,.int .i64 v54.den],false):=Q63 h55
                obtain ⟨v56,h57,h⟩:=obind_some h
                have wh57:callIso prZ (X prZ) 64 [.agg [.int .i64 v52.num,.int .i64 v52.den],.agg [.int .i64 v54.num,.int .i64 v54.den]]=some (.agg [.int .i64 v56.num,.int .i64 v56.den],false):=Q64 h57
                obtain ⟨v58,h59,h⟩:=obind_some h
                have wh59:callIso prZ (X prZ) 63 [.agg [.int .i64 v56.num,.int .i64 v56.den],.agg [.int .i64 v29.1.c,.int .i64 v29.1.d]]=some (.agg [.int .i64 v58.num,.int .i64 v58.den],false):=Q63 h59
                obtain ⟨v60,h61,h⟩:=obind_some h
                have wh61:callIso prZ (X prZ) 63 [.agg [.int .i64 v29.1.a,.int .i64 v29.1.b],.agg [.int .i64 v50.num,.int .i64 v50.den]]=some (.agg [.int .i64 v60.num,.int .i64 v60.den],false):=Q63 h61
                rcases cond_split h with ⟨h62,h⟩ | ⟨h62,h⟩
                ·obtain ⟨v63,h64,h⟩:=obind_some h
                 have wh64:callIso prZ (X prZ) 65 [.agg [.int .i64 v52.num,.int .i64 v52.den],.agg [.int .i64 v54.num,.int .i64 v54.den]]=some (.agg [.int .i64 v63.num,.int .i64 v63.den],false):=Q65 h64
                 obtain ⟨v65,h66,h⟩:=obind_some h
                 have wh66:callIso prZ (X prZ) 63 [.agg [.int .i64 v63.num,.int .i64 v63.den],.agg [.int .i64 v33.1.c,.int .i64 v33.1.d]]=some (.agg [.int .i64 v65.num,.int .i64 v65.den],false):=Q63 h66
                 obtain ⟨v67,h68,h⟩:=obind_some h
                 have wh68:callIso prZ (X prZ) 63 [.agg [.int .i64 v33.1.a,.int .i64 v33.1.b],.agg [.int .i64 v50.num,.int .i64 v50.den]]=some (.agg [.int .i64 v67.num,.int .i64 v67.den],false):=Q63 h68
                 rcases cond_split h with ⟨h69,h⟩ | ⟨h69,h⟩
                 ·obtain ⟨v70,h71,h⟩:=obind_some h
                  have wh71:callIso prZ (X prZ) 57 [sl 3 vel v19.1,.int .i64 a0.lo]=some (.tup [.agg [.int .i64 v70.1.num,.int .i64 v70.1.den],.int .i64 v70.2],false):=Q57 h71
                  obtain ⟨v72,h73,h⟩:=obind_some h
                  have wh73:callIso prZ (X prZ) 47 [sl 3 vel v19.1,sl 3 vel v19.1,.int .i64 a0.lo,.bool false]=some (.tup [.agg [.int .i64 v72.1.num,.int .i64 v72.1.den],.int .i64 v72.2],false):=Q47 h73
                  obtain ⟨v74,h75,h⟩:=obind_some h
                  have wh75:callIso prZ (X prZ) 47 [sl 3 vel v19.1,sl 3 vel v19.1,.int .i64 a0.lo,.bool true]=some (.tup [.agg [.int .i64 v74.1.num,.int .i64 v74.1.den],.int .i64 v74.2],false):=Q47 h75
                  rcases cond_split h with ⟨h76,h⟩ | ⟨h76,h⟩
                  ·rcases cond_split h with ⟨h77,h⟩ | ⟨h77,h⟩
                   ·have hr:false=r:=Option.some.inj h
                    subst hr
                    refine iso_F rfl ?_ (fun _=>by first | rfl | simp only [go_sem,seval]) (by first | rfl | simp only [go_sem,seval])
                    rw [callFn_at (show prZ.fns 8=some c8 from rfl) (by simp)]
                    simp only [go_sem,seval,c8,Q16 h2,h3,wh5,h6,wh8,h9,wh11,h12,wh14,h15,wh17,h18,wh20,wh22,wh24,wh26,h27,h28,wh30,wh32,wh34,wh36,h37,wh39,h40,wh42,h43,wh45,h46,h47,h48,h49,wh51,wh53,wh55,wh57,wh59,wh61,h62,wh64,wh66,wh68,h69,wh71,wh73,wh75,h76,h77]
                    exact ⟨_,rfl⟩
                   ·rcases cond_split h with ⟨h78,h⟩ | ⟨h78,h⟩
                    ·have hr:false=r:=Option.some.inj h
                     subst hr
                     refine iso_F rfl ?_ (fun _=>by first | rfl | simp only [go_sem,seval]) (by first | rfl | simp only [go_sem,seval])
                     rw [callFn_at (show prZ.fns 8=some c8 from rfl) (by simp)]
                     simp only [go_sem,seval,c8,Q16 h2,h3,wh5,h6,wh8,h9,wh11,h12,wh14,h15,wh17,h18,wh20,wh22,wh24,wh26,h27,h28,wh30,wh32,wh34,wh36,h37,wh39,h40,wh42,h43,wh45,h46,h47,h48,h49,wh51,wh53,wh55,wh57,wh59,wh61,h62,wh64,wh66,wh68,h69,wh71,wh73,wh75,h76,h77,h78]
                     exact ⟨_,rfl⟩
                    ·rcases cond_split h with ⟨h79,h⟩ | ⟨h79,h⟩
                     ·have hr:false=r:=Option.some.inj h
                      subst hr
                      refine iso_F rfl ?_ (fun _=>by first | rfl | simp only [go_sem,seval]) (by first | rfl | simp only [go_sem,seval])
                      rw [callFn_at (show prZ.fns 8=some c8 from rfl) (by simp)]
                      simp only [go_sem,seval,c8,Q16 h2,h3,wh5,h6,wh8,h9,wh11,h12,wh14,h15,wh17,h18,wh20,wh22,wh24,wh26,h27,h28,wh30,wh32,wh34,wh36,h37,wh39,h40,wh42,h43,wh45,h46,h47,h48,h49,wh51,wh53,wh55,wh57,wh59,wh61,h62,wh64,wh66,wh68,h69,wh71,wh73,wh75,h76,h77,h78,h79]
                      exact ⟨_,rfl⟩
                     ·rcases cond_split h with ⟨h80,h⟩ | ⟨h80,h⟩
                      ·have hr:false=r:=Option.some.inj h
                       subst hr
                       refine iso_F rfl ?_ (fun _=>by first | rfl | simp only [go_sem,seval]) (by first | rfl | simp only [go_sem,seval])
                       rw [callFn_at (show prZ.fns 8=some c8 from rfl) (by simp)]
                       simp only [go_sem,seval,c8,Q16 h2,h3,wh5,h6,wh8,h9,wh11,h12,wh14,h15,wh17,h18,wh20,wh22,wh24,wh26,h27,h28,wh30,wh32,wh34,wh36,h37,wh39,h40,wh42,h43,wh45,h46,h47,h48,h49,wh51,wh53,wh55,wh57,wh59,wh61,h62,wh64,wh66,wh68,h69,wh71,wh73,wh75,h76,h77,h78,h79,h80]
                       exact ⟨_,rfl⟩
                      ·obtain ⟨v81,h82,h⟩:=obind_some h
                       have wh82:callIso prZ (X prZ) 66 [.int .i64 (wrapF .i64 (4 * v70.1.num)),.int .i64 v70.1.den]=some (.agg [.int .i64 v81.num,.int .i64 v81.den],false):=Q66 h82
                       rcases cond_split h with ⟨h83,h⟩ | ⟨h83,h⟩
                       ·rcases cond_split h with ⟨h84,h⟩ | ⟨h84,h⟩
                        ·obtain ⟨v85,h86,h⟩:=obind_some h
                         have wh86:callIso prZ (X prZ) 48 [sl 3 vel v19.1,sl 3 vel v23.1,.int .i64 a0.lo,.int .i64 a0.hi]=some (.tup [.int .i64 v85.1,.int .i64 v85.2],false):=Q48 h86
                         obtain ⟨d192,h193,h⟩:=obind_some h
                         rcases d192 with d194 | d195
                         ·have wh193:X prZ (.loop c8_0) ⟨[(1,.vptr (.agg [sl 3 vel a0.x,sl 3 vel a0.y,.int .i64 a0.lo,.int .i64 a0.hi]),false),(24,.int .i64 v85.1,false),(25,.int .i64 v85.2,false),(26,.int .i64 a0.lo,false)],[.cells [(.int .i64 v21.1.a,false),(.int .i64 v21.1.b,false),(.int .i64 v21.1.c,false),(.int .i64 v21.1.d,false)],.cells [(.int .i64 v25.1.a,false),(.int .i64 v25.1.b,false),(.int .i64 v25.1.c,false),(.int .i64 v25.1.d,false)],.cells [(.int .i64 v29.1.a,false),(.int .i64 v29.1.b,false),(.int .i64 v29.1.c,false),(.int .i64 v29.1.d,false)],.cells [(.int .i64 v31.1.a,false),(.int .i64 v31.1.b,false),(.int .i64 v31.1.c,false),(.int .i64 v31.1.d,false)],.cells [(.int .i64 v33.1.a,false),(.int .i64 v33.1.b,false),(.int .i64 v33.1.c,false),(.int .i64 v33.1.d,false)],.cells [(.int .i64 v35.1.a,false),(.int .i64 v35.1.b,false),(.int .i64 v35.1.c,false),(.int .i64 v35.1.d,false)],.cells [(.int .i64 v50.num,false),(.int .i64 v50.den,false)],.cells [(.int .i64 v52.num,false),(.int .i64 v52.den,false)],.cells [(.int .i64 v54.num,false),(.int .i64 v54.den,false)],.cells [(.int .i64 v70.1.num,false),(.int .i64 v70.1.den,false)],.cells [(.int .i64 v72.1.num,false),(.int .i64 v72.1.den,false)],.cells [(.int .i64 v74.1.num,false),(.int .i64 v74.1.den,false)]]⟩=some (.ret,⟨[(2,.bool d194.1,false)],[.cells [(.int .i64 v21.1.a,false),(.int .i64 v21.1.b,false),(.int .i64 v21.1.c,false),(.int .i64 v21.1.d,false)],.cells [(.int .i64 v25.1.a,false),(.int .i64 v25.1.b,false),(.int .i64 v25.1.c,false),(.int .i64 v25.1.d,false)],.cells [(.int .i64 v29.1.a,false),(.int .i64 v29.1.b,false),(.int .i64 v29.1.c,false),(.int .i64 v29.1.d,false)],.cells [(.int .i64 v31.1.a,false),(.int .i64 v31.1.b,false),(.int .i64 v31.1.c,false),(.int .i64 v31.1.d,false)],.cells [(.int .i64 v33.1.a,false),(.int .i64 v33.1.b,false),(.int .i64 v33.1.c,false),(.int .i64 v33.1.d,false)],.cells [(.int .i64 v35.1.a,false),(.int .i64 v35.1.b,false),(.int .i64 v35.1.c,false),(.int .i64 v35.1.d,false)],.cells [(.int .i64 v50.num,false),(.int .i64 v50.den,false)],.cells [(.int .i64 v52.num,false),(.int .i64 v52.den,false)],.cells [(.int .i64 v54.num,false),(.int .i64 v54.den,false)],.cells [(.int .i64 v70.1.num,false),(.int .i64 v70.1.den,false)],.cells [(.int .i64 v72.1.num,false),(.int .i64 v72.1.den,false)],.cells [(.int .i64 v74.1.num,false),(.int .i64 v74.1.den,false)],.cells [(.int .i64 d194.2.1,false),(.int .i64 d194.2.2.1,false)],.cells [(.int .i64 d194.2.2.2.1,false),(.int .i64 d194.2.2.2.2,false)]]⟩):=l8_0 a0 v21 v25 v29 v31 v33 v35 v50 v52 v54 v70 v72 v74 v85 h193
                          have hr:d194.1=r:=Option.some.inj h
                          subst hr
                          refine iso_F rfl ?_ (fun _=>by first | rfl | simp only [go_sem,seval]) (by first | rfl | simp only [go_sem,seval])
                          rw [callFn_at (show prZ.fns 8=some c8 from rfl) (by simp)]
                          simp only [go_sem,seval,c8,Q16 h2,h3,wh5,h6,wh8,h9,wh11,h12,wh14,h15,wh17,h18,wh20,wh22,wh24,wh26,h27,h28,wh30,wh32,wh34,wh36,h37,wh39,h40,wh42,h43,wh45,h46,h47,h48,h49,wh51,wh53,wh55,wh57,wh59,wh61,h62,wh64,wh66,wh68,h69,wh71,wh73,wh75,h76,h77,h78,h79,h80,wh82,h83,h84,wh86,wh193]
                          exact ⟨_,rfl⟩
                         ·have wh193:X prZ (.loop c8_0) ⟨[(1,.vptr (.agg [sl 3 vel a0.x,sl 3 vel a0.y,.int .i64 a0.lo,.int .i64 a0.hi]),false),(24,.int .i64 v85.1,false),(25,.int .i64 v85.2,false),(26,.int .i64 a0.lo,false)],[.cells [(.int .i64 v21.1.a,false),(.int .i64 v21.1.b,false),(.int .i64 v21.1.c,false),(.int .i64 v21.1.d,false)],.cells [(.int .i64 v25.1.a,false),(.int .i64 v25.1.b,false),(.int .i64 v25.1.c,false),(.int .i64 v25.1.d,false)],.cells [(.int .i64 v29.1.a,false),(.int .i64 v29.1.b,false),(.int .i64 v29.1.c,false),(.int .i64 v29.1.d,false)],.cells [(.int .i64 v31.1.a,false),(.int .i64 v31.1.b,false),(.int .i64 v31.1.c,false),(.int .i64 v31.1.d,false)],.cells [(.int .i64 v33.1.a,false),(.int .i64 v33.1.b,false),(.int .i64 v33.1.c,false),(.int .i64 v33.1.d,false)],.cells [(.int .i64 v35.1.a,false),(.int .i64 v35.1.b,false),(.int .i64 v35.1.c,false),(.int .i64 v35.1.d,false)],.cells [(.int .i64 v50.num,false),(.int .i64 v50.den,false)],.cells [(.int .i64 v52.num,false),(.int .i64 v52.den,false)],.cells [(.int .i64 v54.num,false),(.int .i64 v54.den,false)],.cells [(.int .i64 v70.1.num,false),(.int .i64 v70.1.den,false)],.cells [(.int .i64 v72.1.num,false),(.int .i64 v72.1.den,false)],.cells [(.int .i64 v74.1.num,false),(.int .i64 v74.1.den,false)]]⟩=some (.exit 0,⟨[(1,.vptr (.agg [sl 3 vel a0.x,sl 3 vel a0.y,.int .i64 a0.lo,.int .i64 a0.hi]),false),(24,.int .i64 v85.1,false),(25,.int .i64 v85.2,false),(26,.int .i64 d195,false),(333,.bool false,false)],[.cells [(.int .i64 v21.1.a,false),(.int .i64 v21.1.b,false),(.int .i64 v21.1.c,false),(.int .i64 v21.1.d,false)],.cells [(.int .i64 v25.1.a,false),(.int .i64 v25.1.b,false),(.int .i64 v25.1.c,false),(.int .i64 v25.1.d,false)],.cells [(.int .i64 v29.1.a,false),(.int .i64 v29.1.b,false),(.int .i64 v29.1.c,false),(.int .i64 v29.1.d,false)],.cells [(.int .i64 v31.1.a,false),(.int .i64 v31.1.b,false),(.int .i64 v31.1.c,false),(.int .i64 v31.1.d,false)],.cells [(.int .i64 v33.1.a,false),(.int .i64 v33.1.b,false),(.int .i64 v33.1.c,false),(.int .i64 v33.1.d,false)],.cells [(.int .i64 v35.1.a,false),(.int .i64 v35.1.b,false),(.int .i64 v35.1.c,false),(.int .i64 v35.1.d,false)],.cells [(.int .i64 v50.num,false),(.int .i64 v50.den,false)],.cells [(.int .i64 v52.num,false),(.int .i64 v52.den,false)],.cells [(.int .i64 v54.num,false),(.int .i64 v54.den,false)],.cells [(.int .i64 v70.1.num,false),(.int .i64 v70.1.den,false)],.cells [(.int .i64 v72.1.num,false),(.int .i64 v72.1.den,false)],.cells [(.int .i64 v74.1.num,false),(.int .i64 v74.1.den,false)]]⟩):=l8_0 a0 v21 v25 v29 v31 v33 v35 v50 v52 v54 v70 v72 v74 v85 h193
                          rcases cond_split h with ⟨h196,h⟩ | ⟨h196,h⟩
                          ·rcases cond_split h with ⟨h197,h⟩ | ⟨h197,h⟩
                           ·have hr:true=r:=Option.some.inj h
                            subst hr
                            refine iso_F rfl ?_ (fun _=>by first | rfl | simp only [go_sem,seval]) (by first | rfl | simp only [go_sem,seval])
                            rw [callFn_at (show prZ.fns 8=some c8 from rfl) (by simp)]
                            simp only [go_sem,seval,c8,Q16 h2,h3,wh5,h6,wh8,h9,wh11,h12,wh14,h15,wh17,h18,wh20,wh22,wh24,wh26,h27,h28,wh30,wh32,wh34,wh36,h37,wh39,h40,wh42,h43,wh45,h46,h47,h48,h49,wh51,wh53,wh55,wh57,wh59,wh61,h62,wh64,wh66,wh68,h69,wh71,wh73,wh75,h76,h77,h78,h79,h80,wh82,h83,h84,wh86,wh193,h196,h197]
                            exact ⟨_,rfl⟩
                           ·rcases cond_split h with ⟨h198,h⟩ | ⟨h198,h⟩
                            ·rcases cond_split h with ⟨h199,h⟩ | ⟨h199,h⟩
                             ·have hr:decide (v85.1≤a0.hi)=r:=Option.some.inj h
                              subst hr
                              refine iso_F rfl ?_ (fun _=>by first | rfl | simp only [go_sem,seval]) (by first | rfl | simp only [go_sem,seval])
                              rw [callFn_at (show prZ.fns 8=some c8 from rfl) (by simp)]
                              simp only [go_sem,seval,c8,Q16 h2,h3,wh5,h6,wh8,h9,wh11,h12,wh14,h15,wh17,h18,wh20,wh22,wh24,wh26,h27,h28,wh30,wh32,wh34,wh36,h37,wh39,h40,wh42,h43,wh45,h46,h47,h48,h49,wh51,wh53,wh55,wh57,wh59,wh61,h62,wh64,wh66,wh68,h69,wh71,wh73,wh75,h76,h77,h78,h79,h80,wh82,h83,h84,wh86,wh193,h196,h197,h198,h199]
                              exact ⟨_,rfl⟩
                             ·have hr:false=r:=Option.some.inj h
                              subst hr
                              refine iso_F rfl ?_ (fun _=>by first | rfl | simp only [go_sem,seval]) (by first | rfl | simp only [go_sem,seval])
                              rw [callFn_at (show prZ.fns 8=some c8 from rfl) (by simp)]
                              simp only [go_sem,seval,c8,Q16 h2,h3,wh5,h6,wh8,h9,wh11,h12,wh14,h15,wh17,h18,wh20,wh22,wh24,wh26,h27,h28,wh30,wh32,wh34,wh36,h37,wh39,h40,wh42,h43,wh45,h46,h47,h48,h49,wh51,wh53,wh55,wh57,wh59,wh61,h62,wh64,wh66,wh68,h69,wh71,wh73,wh75,h76,h77,h78,h79,h80,wh82,h83,h84,wh86,wh193,h196,h197,h198,h199]
                              exact ⟨_,rfl⟩
                            ·have hr:false=r:=Option.some.inj h
                             subst hr
                             refine iso_F rfl ?_ (fun _=>by first | rfl | simp only [go_sem,seval]) (by first | rfl | simp only [go_sem,seval])
                             rw [callFn_at (show prZ.fns 8=some c8 from rfl) (by simp)]
                             simp only [go_sem,seval,c8,Q16 h2,h3,wh5,h6,wh8,h9,wh11,h12,wh14,h15,wh17,h18,wh20,wh22,wh24,wh26,h27,h28,wh30,wh32,wh34,wh36,h37,wh39,h40,wh42,h43,wh45,h46,h47,h48,h49,wh51,wh53,wh55,wh57,wh59,wh61,h62,wh64,wh66,wh68,h69,wh71,wh73,wh75,h76,h77,h78,h79,h80,wh82,h83,h84,wh86,wh193,h196,h197,h198]
                             exact ⟨_,rfl⟩
                          ·rcases cond_split h with ⟨h200,h⟩ | ⟨h200,h⟩
                           ·rcases cond_split h with ⟨h201,h⟩ | ⟨h201,h⟩
                            ·have hr:decide (v85.1≤a0.hi)=r:=Option.some.inj h
                             subst hr
                             refine iso_F rfl ?_ (fun _=>by first | rfl | simp only [go_sem,seval]) (by first | rfl | simp only [go_sem,seval])
                             rw [callFn_at (show prZ.fns 8=some c8 from rfl) (by simp)]
                             simp only [go_sem,seval,c8,Q16 h2,h3,wh5,h6,wh8,h9,wh11,h12,wh14,h15,wh17,h18,wh20,wh22,wh24,wh26,h27,h28,wh30,wh32,wh34,wh36,h37,wh39,h40,wh42,h43,wh45,h46,h47,h48,h49,wh51,wh53,wh55,wh57,wh59,wh61,h62,wh64,wh66,wh68,h69,wh71,wh73,wh75,h76,h77,h78,h79,h80,wh82,h83,h84,wh86,wh193,h196,h200,h201]
                             exact ⟨_,rfl⟩
                            ·have hr:false=r:=Option.some.inj h
                             subst hr
                             refine iso_F rfl ?_ (fun _=>by first | rfl | simp only [go_sem,seval]) (by first | rfl | simp only [go_sem,seval])
                             rw [callFn_at (show prZ.fns 8=some c8 from rfl) (by simp)]
                             simp only [go_sem,seval,c8,Q16 h2,h3,wh5,h6,wh8,h9,wh11,h12,wh14,h15,wh17,h18,wh20,wh22,wh24,wh26,h27,h28,wh30,wh32,wh34,wh36,h37,wh39,h40,wh42,h43,wh45,h46,h47,h48,h49,wh51,wh53,wh55,wh57,wh59,wh61,h62,wh64,wh66,wh68,h69,wh71,wh73,wh75,h76,h77,h78,h79,h80,wh82,h83,h84,wh86,wh193,h196,h200,h201]
                             exact ⟨_,rfl⟩
                           ·have hr:false=r:=Option.some.inj h
                            subst hr
                            refine iso_F rfl ?_ (fun _=>by first | rfl | simp only [go_sem,seval]) (by first | rfl | simp only [go_sem,seval])
                            rw [callFn_at (show prZ.fns 8=some c8 from rfl) (by simp)]
                            simp only [go_sem,seval,c8,Q16 h2,h3,wh5,h6,wh8,h9,wh11,h12,wh14,h15,wh17,h18,wh20,wh22,wh24,wh26,h27,h28,wh30,wh32,wh34,wh36,h37,wh39,h40,wh42,h43,wh45,h46,h47,h48,h49,wh51,wh53,wh55,wh57,wh59,wh61,h62,wh64,wh66,wh68,h69,wh71,wh73,wh75,h76,h77,h78,h79,h80,wh82,h83,h84,wh86,wh193,h196,h200]
                            exact ⟨_,rfl⟩
                        ·have hr:false=r:=Option.some.inj h
                         subst hr
                         refine iso_F rfl ?_ (fun _=>by first | rfl | simp only [go_sem,seval]) (by first | rfl | simp only [go_sem,seval])
                         rw [callFn_at (show prZ.fns 8=some c8 from rfl) (by simp)]
                         simp only [go_sem,seval,c8,Q16 h2,h3,wh5,h6,wh8,h9,wh11,h12,wh14,h15,wh17,h18,wh20,wh22,wh24,wh26,h27,h28,wh30,wh32,wh34,wh36,h37,wh39,h40,wh42,h43,wh45,h46,h47,h48,h49,wh51,wh53,wh55,wh57,wh59,wh61,h62,wh64,wh66,wh68,h69,wh71,wh73,wh75,h76,h77,h78,h79,h80,wh82,h83,h84]
                         exact ⟨_,rfl⟩
                       ·have hr:false=r:=Option.some.inj h
                        subst hr
                        refine iso_F rfl ?_ (fun _=>by first | rfl | simp only [go_sem,seval]) (by first | rfl | simp only [go_sem,seval])
                        rw [callFn_at (show prZ.fns 8=some c8 from rfl) (by simp)]
                        simp only [go_sem,seval,c8,Q16 h2,h3,wh5,h6,wh8,h9,wh11,h12,wh14,h15,wh17,h18,wh20,wh22,wh24,wh26,h27,h28,wh30,wh32,wh34,wh36,h37,wh39,h40,wh42,h43,wh45,h46,h47,h48,h49,wh51,wh53,wh55,wh57,wh59,wh61,h62,wh64,wh66,wh68,h69,wh71,wh73,wh75,h76,h77,h78,h79,h80,wh82,h83]
                        exact ⟨_,rfl⟩
                  ·have hr:false=r:=Option.some.inj h
                   subst hr
                   refine iso_F rfl ?_ (fun _=>by first | rfl | simp only [go_sem,seval]) (by first | rfl | simp only [go_sem,seval])
                   rw [callFn_at (show prZ.fns 8=some c8 from rfl) (by simp)]
                   simp only [go_sem,seval,c8,Q16 h2,h3,wh5,h6,wh8,h9,wh11,h12,wh14,h15,wh17,h18,wh20,wh22,wh24,wh26,h27,h28,wh30,wh32,wh34,wh36,h37,wh39,h40,wh42,h43,wh45,h46,h47,h48,h49,wh51,wh53,wh55,wh57,wh59,wh61,h62,wh64,wh66,wh68,h69,wh71,wh73,wh75,h76]
                   exact ⟨_,rfl⟩
                 ·have hr:false=r:=Option.some.inj h
                  subst hr
                  refine iso_F rfl ?_ (fun _=>by first | rfl | simp only [go_sem,seval]) (by first | rfl | simp only [go_sem,seval])
                  rw [callFn_at (show prZ.fns 8=some c8 from rfl) (by simp)]
                  simp only [go_sem,seval,c8,Q16 h2,h3,wh5,h6,wh8,h9,wh11,h12,wh14,h15,wh17,h18,wh20,wh22,wh24,wh26,h27,h28,wh30,wh32,wh34,wh36,h37,wh39,h40,wh42,h43,wh45,h46,h47,h48,h49,wh51,wh53,wh55,wh57,wh59,wh61,h62,wh64,wh66,wh68,h69]
                  exact ⟨_,rfl⟩
                ·have hr:false=r:=Option.some.inj h
                 subst hr
                 refine iso_F rfl ?_ (fun _=>by first | rfl | simp only [go_sem,seval]) (by first | rfl | simp only [go_sem,seval])
                 rw [callFn_at (show prZ.fns 8=some c8 from rfl) (by simp)]
                 simp only [go_sem,seval,c8,Q16 h2,h3,wh5,h6,wh8,h9,wh11,h12,wh14,h15,wh17,h18,wh20,wh22,wh24,wh26,h27,h28,wh30,wh32,wh34,wh36,h37,wh39,h40,wh42,h43,wh45,h46,h47,h48,h49,wh51,wh53,wh55,wh57,wh59,wh61,h62]
                 exact ⟨_,rfl⟩
               ·have hr:false=r:=Option.some.inj h
                subst hr
                refine iso_F rfl ?_ (fun _=>by first | rfl | simp only [go_sem,seval]) (by first | rfl | simp only [go_sem,seval])
                rw [callFn_at (show prZ.fns 8=some c8 from rfl) (by simp)]
                simp only [go_sem,seval,c8,Q16 h2,h3,wh5,h6,wh8,h9,wh11,h12,wh14,h15,wh17,h18,wh20,wh22,wh24,wh26,h27,h28,wh30,wh32,wh34,wh36,h37,wh39,h40,wh42,h43,wh45,h46,h47,h48,h49]
                exact ⟨_,rfl⟩
              ·have hr:false=r:=Option.some.inj h
               subst hr
               refine iso_F rfl ?_ (fun _=>by first | rfl | simp only [go_sem,seval]) (by first | rfl | simp only [go_sem,seval])
               rw [callFn_at (show prZ.fns 8=some c8 from rfl) (by simp)]
               simp only [go_sem,seval,c8,Q16 h2,h3,wh5,h6,wh8,h9,wh11,h12,wh14,h15,wh17,h18,wh20,wh22,wh24,wh26,h27,h28,wh30,wh32,wh34,wh36,h37,wh39,h40,wh42,h43,wh45,h46,h47,h48]
               exact ⟨_,rfl⟩
             ·have hr:false=r:=Option.some.inj h
              subst hr
              refine iso_F rfl ?_ (fun _=>by first | rfl | simp only [go_sem,seval]) (by first | rfl | simp only [go_sem,seval])
              rw [callFn_at (show prZ.fns 8=some c8 from rfl) (by simp)]
              simp only [go_sem,seval,c8,Q16 h2,h3,wh5,h6,wh8,h9,wh11,h12,wh14,h15,wh17,h18,wh20,wh22,wh24,wh26,h27,h28,wh30,wh32,wh34,wh36,h37,wh39,h40,wh42,h43,wh45,h46,h47]
              exact ⟨_,rfl⟩
            ·have hr:false=r:=Option.some.inj h
             subst hr
             refine iso_F rfl ?_ (fun _=>by first | rfl | simp only [go_sem,seval]) (by first | rfl | simp only [go_sem,seval])
             rw [callFn_at (show prZ.fns 8=some c8 from rfl) (by simp)]
             simp only [go_sem,seval,c8,Q16 h2,h3,wh5,h6,wh8,h9,wh11,h12,wh14,h15,wh17,h18,wh20,wh22,wh24,wh26,h27,h28,wh30,wh32,wh34,wh36,h37,wh39,h40,wh42,h43,wh45,h46]
             exact ⟨_,rfl⟩
           ·have hr:false=r:=Option.some.inj h
            subst hr
            refine iso_F rfl ?_ (fun _=>by first | rfl | simp only [go_sem,seval]) (by first | rfl | simp only [go_sem,seval])
            rw [callFn_at (show prZ.fns 8=some c8 from rfl) (by simp)]
            simp only [go_sem,seval,c8,Q16 h2,h3,wh5,h6,wh8,h9,wh11,h12,wh14,h15,wh17,h18,wh20,wh22,wh24,wh26,h27,h28,wh30,wh32,wh34,wh36,h37,wh39,h40,wh42,h43]
            exact ⟨_,rfl⟩
          ·have hr:false=r:=Option.some.inj h
           subst hr
           refine iso_F rfl ?_ (fun _=>by first | rfl | simp only [go_sem,seval]) (by first | rfl | simp only [go_sem,seval])
           rw [callFn_at (show prZ.fns 8=some c8 from rfl) (by simp)]
           simp only [go_sem,seval,c8,Q16 h2,h3,wh5,h6,wh8,h9,wh11,h12,wh14,h15,wh17,h18,wh20,wh22,wh24,wh26,h27,h28,wh30,wh32,wh34,wh36,h37,wh39,h40]
           exact ⟨_,rfl⟩
         ·have hr:false=r:=Option.some.inj h
          subst hr
          refine iso_F rfl ?_ (fun _=>by first | rfl | simp only [go_sem,seval]) (by first | rfl | simp only [go_sem,seval])
          rw [callFn_at (show prZ.fns 8=some c8 from rfl) (by simp)]
          simp only [go_sem,seval,c8,Q16 h2,h3,wh5,h6,wh8,h9,wh11,h12,wh14,h15,wh17,h18,wh20,wh22,wh24,wh26,h27,h28,wh30,wh32,wh34,wh36,h37]
          exact ⟨_,rfl⟩
        ·rcases cond_split h with ⟨h202,h⟩ | ⟨h202,h⟩
         ·have hr:true=r:=Option.some.inj h
          subst hr
          refine iso_F rfl ?_ (fun _=>by first | rfl | simp only [go_sem,seval]) (by first | rfl | simp only [go_sem,seval])
          rw [callFn_at (show prZ.fns 8=some c8 from rfl) (by simp)]
          simp only [go_sem,seval,c8,Q16 h2,h3,wh5,h6,wh8,h9,wh11,h12,wh14,h15,wh17,h18,wh20,wh22,wh24,wh26,h27,h28,h202]
          exact ⟨_,rfl⟩
         ·have hr:decide (v25.2=17)=r:=Option.some.inj h
          subst hr
          refine iso_F rfl ?_ (fun _=>by first | rfl | simp only [go_sem,seval]) (by first | rfl | simp only [go_sem,seval])
          rw [callFn_at (show prZ.fns 8=some c8 from rfl) (by simp)]
          simp only [go_sem,seval,c8,Q16 h2,h3,wh5,h6,wh8,h9,wh11,h12,wh14,h15,wh17,h18,wh20,wh22,wh24,wh26,h27,h28,h202]
          exact ⟨_,rfl⟩
       ·rcases cond_split h with ⟨h203,h⟩ | ⟨h203,h⟩
        ·have hr:true=r:=Option.some.inj h
         subst hr
         refine iso_F rfl ?_ (fun _=>by first | rfl | simp only [go_sem,seval]) (by first | rfl | simp only [go_sem,seval])
         rw [callFn_at (show prZ.fns 8=some c8 from rfl) (by simp)]
         simp only [go_sem,seval,c8,Q16 h2,h3,wh5,h6,wh8,h9,wh11,h12,wh14,h15,wh17,h18,wh20,wh22,wh24,wh26,h27,h203]
         exact ⟨_,rfl⟩
        ·have hr:decide (v25.2=17)=r:=Option.some.inj h
         subst hr
         refine iso_F rfl ?_ (fun _=>by first | rfl | simp only [go_sem,seval]) (by first | rfl | simp only [go_sem,seval])
         rw [callFn_at (show prZ.fns 8=some c8 from rfl) (by simp)]
         simp only [go_sem,seval,c8,Q16 h2,h3,wh5,h6,wh8,h9,wh11,h12,wh14,h15,wh17,h18,wh20,wh22,wh24,wh26,h27,h203]
         exact ⟨_,rfl⟩
      ·have hr:v1=r:=Option.some.inj h
       subst hr
       refine iso_F rfl ?_ (fun _=>by first | rfl | simp only [go_sem,seval]) (by first | rfl | simp only [go_sem,seval])
       rw [callFn_at (show prZ.fns 8=some c8 from rfl) (by simp)]
       simp only [go_sem,seval,c8,Q16 h2,h3,wh5,h6,wh8,h9,wh11,h12,wh14,h15,wh17,h18]
       exact ⟨_,rfl⟩
     ·have hr:v1=r:=Option.some.inj h
      subst hr
      refine iso_F rfl ?_ (fun _=>by first | rfl | simp only [go_sem,seval]) (by first | rfl | simp only [go_sem,seval])
      rw [callFn_at (show prZ.fns 8=some c8 from rfl) (by simp)]
      simp only [go_sem,seval,c8,Q16 h2,h3,wh5,h6,wh8,h9,wh11,h12,wh14,h15]
      exact ⟨_,rfl⟩
    ·have hr:v1=r:=Option.some.inj h
     subst hr
     refine iso_F rfl ?_ (fun _=>by first | rfl | simp only [go_sem,seval]) (by first | rfl | simp only [go_sem,seval])
     rw [callFn_at (show prZ.fns 8=some c8 from rfl) (by simp)]
     simp only [go_sem,seval,c8,Q16 h2,h3,wh5,h6,wh8,h9,wh11,h12]
     exact ⟨_,rfl⟩
   ·have hr:v1=r:=Option.some.inj h
    subst hr
    refine iso_F rfl ?_ (fun _=>by first | rfl | simp only [go_sem,seval]) (by first | rfl | simp only [go_sem,seval])
    rw [callFn_at (show prZ.fns 8=some c8 from rfl) (by simp)]
    simp only [go_sem,seval,c8,Q16 h2,h3,wh5,h6,wh8,h9]
    exact ⟨_,rfl⟩
  ·have hr:v1=r:=Option.some.inj h
   subst hr
   refine iso_F rfl ?_ (fun _=>by first | rfl | simp only [go_sem,seval]) (by first | rfl | simp only [go_sem,seval])
   rw [callFn_at (show prZ.fns 8=some c8 from rfl) (by simp)]
   simp only [go_sem,seval,c8,Q16 h2,h3,wh5,h6]
   exact ⟨_,rfl⟩
 ·have hr:v1=r:=Option.some.inj h
  subst hr
  refine iso_F rfl ?_ (fun _=>by first | rfl | simp only [go_sem,seval]) (by first | rfl | simp only [go_sem,seval])
  rw [callFn_at (show prZ.fns 8=some c8 from rfl) (by simp)]
  simp only [go_sem,seval,c8,Q16 h2,h3]
  exact ⟨_,rfl⟩
end Go.Z
