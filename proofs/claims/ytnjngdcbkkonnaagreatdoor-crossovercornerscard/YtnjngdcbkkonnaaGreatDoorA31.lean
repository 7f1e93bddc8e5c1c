/- Chapter 4. -/
import Derived.Test.YtnjngdcbkkonnaaGreatDoorTK
import Derived.Test.YtnjngdcbkkonnaaGreatDoorLZ
import Derived.Test.YtnjngdcbkkonnaaGreatDoorA8
import Derived.Test.YtnjngdcbkkonnaaGreatDoorA13
import Derived.Test.YtnjngdcbkkonnaaGreatDoorA30
set_option linter.unusedVariables false
set_option linter.unusedSimpArgs false
set_option maxRecDepth 100000
set_option maxHeartbeats 4000000
namespace Go.Z
open Go Go.Abs Go.Proofs
def qtk (p:qi) (x:Int):qi:={ p with sa:=x }
def qxp (p:qi) (x:Int):qi:={ p with sb:=x }
theorem qz2:∀ {l:List qi} {i:Nat} {p:qi} {x:Int},l[i]?=some p→yc (pcl l) (i * 8 + 4) [.int .i64 x]=some (pcl (l.set i (qtk p x)))
 | [],i,p,x,h=>by simp at h
 | q::l,0,p,x,h=>by
  simp only [List.getElem?_cons_zero,Option.some.injEq] at h
  subst h
  rw [List.set_cons_zero,qbe,qbe]
  rfl
 | q::l,i + 1,p,x,h=>by
  simp only [List.getElem?_cons_succ] at h
  rw [List.set_cons_succ,qbe,qbe,show (i + 1) * 8 + 4=(pc8 q).length + (i * 8 + 4) by show _=8 + _; omega,q37,qz2 h]
  rfl
theorem q0j:∀ {l:List qi} {i:Nat} {p:qi} {x:Int},l[i]?=some p→yc (pcl l) (i * 8 + 5) [.int .i64 x]=some (pcl (l.set i (qxp p x)))
 | [],i,p,x,h=>by simp at h
 | q::l,0,p,x,h=>by
  simp only [List.getElem?_cons_zero,Option.some.injEq] at h
  subst h
  rw [List.set_cons_zero,qbe,qbe]
  rfl
 | q::l,i + 1,p,x,h=>by
  simp only [List.getElem?_cons_succ] at h
  rw [List.set_cons_succ,qbe,qbe,show (i + 1) * 8 + 5=(pc8 q).length + (i * 8 + 5) by show _=8 + _; omega,q37,q0j h]
  rfl
theorem jds {n:Nat} {l:List qi} {i x:Int} {v:qi} (hv:qmr n l i=some v):yc (pcl l) (i.toNat * 8 + 4) [.int .i64 x]=some (pcl (l.set i.toNat (qtk v x))):=qz2 (qne hv).2.2
theorem jbu {n:Nat} {l:List qi} {i x:Int} {v:qi} (hv:qmr n l i=some v):yc (pcl l) (i.toNat * 8 + 5) [.int .i64 x]=some (pcl (l.set i.toNat (qxp v x))):=q0j (qne hv).2.2
theorem qt9:∀ {l:List qi},cellsOf ((l.map qm).flatMap AVal.flat)=pcl l
 | []=>rfl
 | p::l=>by
  rw [List.map_cons,List.flatMap_cons,qbe,← qt9]
  simp only [cellsOf,List.map_append]
  rfl
theorem qup:∀ {l:List qi},((l.map qm).flatMap AVal.flat).all qbg=true
 | []=>rfl
 | p::l=>by
  rw [List.map_cons,List.flatMap_cons,List.all_append,qup]
  rfl
theorem q20 {h0 r:Nat} {h h':qk} {l:List qi} (hn:newBox h0 h r (.cells (pcl l))=some h'):qb2 h0 h r (sl 8 qm (some l)) true=some ⟨.ms (h0 + r) 0 l.length,false,none,h'⟩:=by
 show qb2 h0 h r (.list false 8 (l.map qm)) true=_
 simp only [qb2,qup,cond_true,qt9,hn,List.length_map]
 rfl
theorem qrt:∀ {l:List qi},qdp 8 l.length ((pcl l).map (·.1))=l.map qm
 | []=>rfl
 | p::l=>by
  rw [qbe,List.map_append,List.length_cons]
  have e:(pc8 p).map (·.1)=[.str p.name,.str p.kd,.int .i64 p.pa,.int .i64 p.pb,.int .i64 p.sa,.int .i64 p.sb,.int .i64 p.cost,.int .i64 p.stock]:=rfl
  rw [e]
  show AVal.agg _::qdp 8 l.length ((pcl l).map (·.1))=_
  rw [qrt]
  rfl
theorem qqv:∀ {l:List qi},(pcl l).all (fun c=>qbg c.1)=true
 | []=>rfl
 | p::l=>by
  rw [qbe,List.all_append,qqv]
  rfl
theorem q3q {h:qk} {b:Nat} {l:List qi} (hb:jq h b=some (pcl l)) (hl:0 < l.length):qkm h (.ms b 0 l.length)=some (sl 8 qm (some l)):=by
 have e:(pcl l).length / l.length=8:=by rw [qsv,Nat.mul_comm]; exact Nat.mul_div_cancel _ hl
 unfold qkm
 simp only [hb]
 have e2:Nat.beq (l.length * 8) (pcl l).length=true:=by rw [qsv]; exact Nat.beq_refl _
 rw [e,e2,qqv]
 show some (AVal.list false 8 (qdp 8 l.length ((pcl l).map (·.1))))=_
 rw [qrt]
 rfl
noncomputable def qmg (n:Nat) (s:Int × List qi):Option ((Int × List qi) ⊕ (Int × List qi)):=
 cond (decide (s.1 < (n:Int)))
  (qe (qmr n s.2 s.1) fun v=>
  qe (qmr n (s.2.set s.1.toNat (qtk v 0)) s.1) fun u=>
  some (.inl (qf .i64 (s.1 + 1),(s.2.set s.1.toNat (qtk v 0)).set s.1.toNat (qxp u 0))))
  (some (.inr s))
def qq5 (cv:AVal) (p5:Int) (a b c d e:ABox) (n:Nat) (s:Int × List qi):ASt:=⟨[(2,.vptr cv,false),(5,.int .i64 p5,false),(6,.ptr 0 0,false),(22,.ms 5 0 n,false),(275,.int .i64 (n:Int),false),(276,.int .i64 s.1,false)],[a,b,c,d,e,.cells (pcl s.2)]⟩
def qvw (cv:AVal) (p5:Int) (a b c d e:ABox) (n:Nat) (s:Int × List qi):ji × ASt:=(.exit 4,⟨[(2,.vptr cv,false),(5,.int .i64 p5,false),(6,.ptr 0 0,false),(22,.ms 5 0 n,false),(275,.int .i64 (n:Int),false),(276,.int .i64 s.1,false),(277,.bool false,false)],[a,b,c,d,e,.cells (pcl s.2)]⟩)
theorem jrz (cv:AVal) (p5:Int) (a b c d e:ABox) (n:Nat) (s:Int × List qi) (r) (h:qmg n s=some r):zj prZ qqh (qq5 cv p5 a b c d e n) (qvw cv p5 a b c d e n) s r:=by
 unfold qmg at h
 rcases qb h with ⟨h1,h⟩ | ⟨h1,h⟩
 ·obtain ⟨v,h2,h⟩:=qa h
  obtain ⟨u,h3,h⟩:=qa h
  cases h
  exact qq (st':=⟨[(2,.vptr cv,false),(5,.int .i64 p5,false),(6,.ptr 0 0,false),(22,.ms 5 0 n,false),(275,.int .i64 (n:Int),false),(276,.int .i64 (qf .i64 (s.1 + 1)),false)],[a,b,c,d,e,.cells (pcl ((s.2.set s.1.toNat (qtk v 0)).set s.1.toNat (qxp u 0)))]⟩) (by simp only [go_sem,seval,qqh,qq5,h1,qzz h2,jds h2,qzz h3,jbu h3] <;> rfl) (jb (Nat.le_refl _))
 ·cases h
  exact qj (by simp only [go_sem,seval,qqh,qq5,h1,qvw] <;> rfl)
theorem jsk (cv:AVal) (p5:Int) (a b c d e:ABox) (n:Nat) {s:Int × List qi} {r} (h:itO (qmg n) s=some r):X prZ (.loop qqh) (qq5 cv p5 a b c d e n s)=some (qvw cv p5 a b c d e n r):=z7 (jrz cv p5 a b c d e n) (fun d hh=>by cases hh) h
theorem Q24 {a0:Option (List qi)} {r} (h:f24 a0=some r):qc prZ (X prZ) 24 [sl 8 qm a0]=some (sl 8 qm r.1,r.2):=atZ rfl rfl (atE rfl rfl (W24 h) (by first | rfl | simp only [go_sem,seval])) (by first | rfl | simp only [go_sem,seval])
theorem Q28 {a0:yl} {r} (h:f28 a0=some r):qc prZ (X prZ) 28 [.agg [sl 8 qm a0.parts,sl 1 qo a0.choice,sl 5 jg a0.bands]]=some (.bool r,false):=atZ rfl rfl (atE rfl rfl (W28 h) (by first | rfl | simp only [go_sem,seval])) (by first | rfl | simp only [go_sem,seval])
theorem Q29 {a0:Option (List qi)} {a1:Option (List Int)} {a2:Int} {r} (h:f29 a0 a1 a2=some r):qc prZ (X prZ) 29 [sl 8 qm a0,sl 1 qo a1,.int .i64 a2]=some (.tup [.agg [.int .i64 r.1.a,.int .i64 r.1.b,.int .i64 r.1.c,.int .i64 r.1.d],.int .i64 r.2],false):=atZ rfl rfl (atE rfl rfl (W29 h) (by first | rfl | simp only [go_sem,seval])) (by first | rfl | simp only [go_sem,seval])
theorem Q30 {a0:Option (List Int)} {r} (h:f30 a0=some r):qc prZ (X prZ) 30 [sl 1 qo a0]=some (sl 1 qo r,true):=atZ rfl rfl (atE rfl rfl (W30 h) (by first | rfl | simp only [go_sem,seval])) (by first | rfl | simp only [go_sem,seval])
theorem Q31 {a0:Option (List qi)} {a1:Option (List Int)} {a2:Int} {r} (h:f31 a0 a1 a2=some r):qc prZ (X prZ) 31 [sl 8 qm a0,sl 1 qo a1,.int .i64 a2]=some (.tup [.agg [.int .i64 r.1.num,.int .i64 r.1.den],.int .i64 r.2],false):=atZ rfl rfl (atE rfl rfl (W31 h) (by first | rfl | simp only [go_sem,seval])) (by first | rfl | simp only [go_sem,seval])
theorem Q38 {a0:Option (List jm)} {r} (h:f38 a0=some r):qc prZ (X prZ) 38 [sl 5 jg a0]=some (sl 5 jg r.1,r.2):=atZ rfl rfl (atE rfl rfl (W38 h) (by first | rfl | simp only [go_sem,seval])) (by first | rfl | simp only [go_sem,seval])
theorem Q46 {a0:Option (List GEl)} {r} (h:f46 a0=some r):qc prZ (X prZ) 46 [sl 3 vel a0]=some (sl 3 vel r.1,r.2):=atZ rfl rfl (atE rfl rfl (W46 h) (by first | rfl | simp only [go_sem,seval])) (by first | rfl | simp only [go_sem,seval])
theorem Q54 {a0:yl} {r} (h:f54 a0=some r):qc prZ (X prZ) 54 [.agg [sl 8 qm a0.parts,sl 1 qo a0.choice,sl 5 jg a0.bands]]=some (.int .i64 r,false):=atZ rfl rfl (atE rfl rfl (W54 h) (by first | rfl | simp only [go_sem,seval])) (by first | rfl | simp only [go_sem,seval])
theorem Q55 {a0:List UInt8} {r} (h:f55 a0=some r):qc prZ (X prZ) 55 [.str a0]=some (.bool r,false):=atZ rfl rfl (atE rfl rfl (W55 h) (by first | rfl | simp only [go_sem,seval])) (by first | rfl | simp only [go_sem,seval])
theorem Q56 {a0:Option (List qi)} {a1:Option (List Int)} {r} (h:f56 a0 a1=some r):qc prZ (X prZ) 56 [sl 8 qm a0,sl 1 qo a1]=some (sl 1 (sl 3 vel) r.1,r.2):=atZ rfl rfl (atE rfl rfl (W56 h) (by first | rfl | simp only [go_sem,seval])) (by first | rfl | simp only [go_sem,seval])
theorem Q57 {a0:Option (List GEl)} {a1:Int} {r} (h:f57 a0 a1=some r):qc prZ (X prZ) 57 [sl 3 vel a0,.int .i64 a1]=some (.tup [.agg [.int .i64 r.1.num,.int .i64 r.1.den],.int .i64 r.2],false):=atZ rfl rfl (atE rfl rfl (W57 h) (by first | rfl | simp only [go_sem,seval])) (by first | rfl | simp only [go_sem,seval])
theorem Q58 {a0:GRat} {a1:GRat} {r} (h:f58 200 a0 a1=some r):qc prZ (X prZ) 58 [.agg [.int .i64 a0.num,.int .i64 a0.den],.agg [.int .i64 a1.num,.int .i64 a1.den]]=some (.bool r,false):=atZ rfl rfl (atE rfl rfl (W58 200 h) (by first | rfl | simp only [go_sem,seval])) (by first | rfl | simp only [go_sem,seval])
theorem Q59 {a0:Option (List qi)} {a1:Option (List Int)} {a2:Option (List jm)} {r} (h:f59 a0 a1 a2=some r):qc prZ (X prZ) 59 [sl 8 qm a0,sl 1 qo a1,sl 5 jg a2]=some (.tup [.agg [.int .i64 r.1.band,sl 3 vel r.1.ladder],.int .i64 r.2],false):=atZ rfl rfl (atE rfl rfl (W59 h) (by first | rfl | simp only [go_sem,seval])) (by first | rfl | simp only [go_sem,seval])
noncomputable def qlz (a0:yl) (v10:Int) (v16:jy × Int) (v18:GRat × Int) (s0:Bool × Int):Option ((Bool × Int) ⊕ ((Bool × Int))):=
 cond (decide (s0.2 < ((a0.choice.getD []).length:Int)))
  (qe (zw (a0.choice.getD []) s0.2) fun v36=>
  cond s0.1
   (qe (zw (a0.parts.getD []) v36) fun v39=>
   qe (f55 v39.kd) fun v41=>
   some (.inl (!v41,qf .i64 (s0.2 + 1))))
   (some (.inl (false,qf .i64 (s0.2 + 1)))))
  (some (.inr (s0.1,s0.2)))
def qra (a0:yl) (v10:Int) (v16:jy × Int) (v18:GRat × Int) (s0:Bool × Int):ASt:=⟨[(2,.vptr (.agg [sl 8 qm a0.parts,sl 1 qo a0.choice,sl 5 jg a0.bands]),false),(5,.int .i64 (qf .i64 (1 + v10)),false),(6,.ptr 0 0,false),(7,.int .i64 v16.2,false),(8,.ptr 1 0,false),(9,.int .i64 v18.2,false),(10,.bool false,false),(11,.bool s0.1,false),(12,.ptr 2 0,false),(66,sl 1 qo a0.choice,false),(67,.int .i64 ((a0.choice.getD []).length:Int),false),(68,.int .i64 s0.2,false)],[.cells [(.int .i64 v16.1.a,false),(.int .i64 v16.1.b,false),(.int .i64 v16.1.c,false),(.int .i64 v16.1.d,false)],.cells [(.int .i64 v18.1.num,false),(.int .i64 v18.1.den,false)],.cells [(.bool false,false),(.bool false,false)]]⟩
def q2r (a0:yl) (v10:Int) (v16:jy × Int) (v18:GRat × Int) (d:(Bool × Int)):ji × ASt:=(.exit 0,⟨[(2,.vptr (.agg [sl 8 qm a0.parts,sl 1 qo a0.choice,sl 5 jg a0.bands]),false),(5,.int .i64 (qf .i64 (1 + v10)),false),(6,.ptr 0 0,false),(7,.int .i64 v16.2,false),(8,.ptr 1 0,false),(9,.int .i64 v18.2,false),(10,.bool false,false),(11,.bool d.1,false),(12,.ptr 2 0,false),(66,sl 1 qo a0.choice,false),(67,.int .i64 ((a0.choice.getD []).length:Int),false),(68,.int .i64 d.2,false),(69,.bool false,false)],[.cells [(.int .i64 v16.1.a,false),(.int .i64 v16.1.b,false),(.int .i64 v16.1.c,false),(.int .i64 v16.1.d,false)],.cells [(.int .i64 v18.1.num,false),(.int .i64 v18.1.den,false)],.cells [(.bool false,false),(.bool false,false)]]⟩)
theorem jtl (a0:yl) (v10:Int) (v16:jy × Int) (v18:GRat × Int) (s0:Bool × Int) (r) (h:qlz a0 v10 v16 v18 s0=some r):zj prZ qqm (qra a0 v10 v16 v18) (q2r a0 v10 v16 v18) s0 r:=by
 unfold qlz at h
 rcases qb h with ⟨h35,h⟩ | ⟨h35,h⟩
 ·obtain ⟨v36,h37,h⟩:=qa h
  rcases qb h with ⟨h38,h⟩ | ⟨h38,h⟩
  ·obtain ⟨v39,h40,h⟩:=qa h
   obtain ⟨v41,h42,h⟩:=qa h
   have wh42:qc prZ (X prZ) 55 [.str v39.kd]=some (.bool v41,false):=Q55 h42
   cases h
   exact qq (st':=⟨[(2,.vptr (.agg [sl 8 qm a0.parts,sl 1 qo a0.choice,sl 5 jg a0.bands]),false),(5,.int .i64 (qf .i64 (1 + v10)),false),(6,.ptr 0 0,false),(7,.int .i64 v16.2,false),(8,.ptr 1 0,false),(9,.int .i64 v18.2,false),(10,.bool false,false),(11,.bool (!v41),false),(12,.ptr 2 0,false),(66,sl 1 qo a0.choice,false),(67,.int .i64 ((a0.choice.getD []).length:Int),false),(68,.int .i64 (qf .i64 (s0.2 + 1)),false)],[.cells [(.int .i64 v16.1.a,false),(.int .i64 v16.1.b,false),(.int .i64 v16.1.c,false),(.int .i64 v16.1.d,false)],.cells [(.int .i64 v18.1.num,false),(.int .i64 v18.1.den,false)],.cells [(.bool false,false),(.bool false,false)]]⟩) (by simp only [go_sem,seval,qqm,qra,h35,q9 h37,h38,q9 h40,wh42] <;> rfl) (jb (Nat.le_refl _))
  ·cases h
   exact qq (st':=⟨[(2,.vptr (.agg [sl 8 qm a0.parts,sl 1 qo a0.choice,sl 5 jg a0.bands]),false),(5,.int .i64 (qf .i64 (1 + v10)),false),(6,.ptr 0 0,false),(7,.int .i64 v16.2,false),(8,.ptr 1 0,false),(9,.int .i64 v18.2,false),(10,.bool false,false),(11,.bool false,false),(12,.ptr 2 0,false),(66,sl 1 qo a0.choice,false),(67,.int .i64 ((a0.choice.getD []).length:Int),false),(68,.int .i64 (qf .i64 (s0.2 + 1)),false)],[.cells [(.int .i64 v16.1.a,false),(.int .i64 v16.1.b,false),(.int .i64 v16.1.c,false),(.int .i64 v16.1.d,false)],.cells [(.int .i64 v18.1.num,false),(.int .i64 v18.1.den,false)],.cells [(.bool false,false),(.bool false,false)]]⟩) (by simp only [go_sem,seval,qqm,qra,h35,q9 h37,h38] <;> rfl) (jb (Nat.le_refl _))
 ·cases h
  exact qj (by simp only [go_sem,seval,qqm,qra,h35,q2r] <;> rfl)
theorem jpu (a0:yl) (v10:Int) (v16:jy × Int) (v18:GRat × Int) {s0:Bool × Int} {d} (h:itO (qlz a0 v10 v16 v18) s0=some d):X prZ (.loop qqm) (qra a0 v10 v16 v18 s0)=some (q2r a0 v10 v16 v18 d):=z7 (jtl a0 v10 v16 v18) (fun d hh=>by cases hh) h
noncomputable def qgv (a0:yl) (v10:Int) (v16:jy × Int) (v18:GRat × Int) (d43:Bool × Int) (v45:(Option (List (Option (List GEl)))) × Bool) (s1:Bool × Int × Bool × Bool):Option ((Bool × Int × Bool × Bool) ⊕ ((Bool × Bool × Int × Int) ⊕ (Bool × Int × Bool × Bool))):=
 cond (decide (s1.2.1 < ((v45.1.getD []).length:Int)))
  (qe (zw (v45.1.getD []) s1.2.1) fun v94=>
  qe (f46 v94) fun v96=>
  qe (f57 v96.1 (qf .i64 (1 + v10))) fun v98=>
  cond (decide (v98.2=0))
   (cond (decide (v16.2=0))
    (cond (decide (v98.1.den < 1))
     (some (.inr (.inl (s1.2.2.1,s1.2.2.2,v98.1.num,v98.1.den))))
     (cond (decide (v98.1.num < 0))
      (some (.inr (.inl (s1.2.2.1,s1.2.2.2,v98.1.num,v98.1.den))))
      (cond (decide (v16.1.b < 1))
       (some (.inr (.inl (s1.2.2.1,s1.2.2.2,v98.1.num,v98.1.den))))
       (cond (decide (v16.1.d < 1))
        (some (.inr (.inl (s1.2.2.1,s1.2.2.2,v98.1.num,v98.1.den))))
        (cond (decide (v16.1.a < 0))
         (some (.inr (.inl (s1.2.2.1,s1.2.2.2,v98.1.num,v98.1.den))))
         (cond (decide (v16.1.c < 0))
          (some (.inr (.inl (s1.2.2.1,s1.2.2.2,v98.1.num,v98.1.den))))
          (qe (f58 200 v98.1 (⟨v16.1.a,v16.1.b⟩)) fun v108=>
          cond v108
           (some (.inr (.inl (s1.2.2.1,s1.2.2.2,v98.1.num,v98.1.den))))
           (qe (f58 200 (⟨v16.1.c,v16.1.d⟩) v98.1) fun v111=>
           cond v111
            (some (.inr (.inl (s1.2.2.1,s1.2.2.2,v98.1.num,v98.1.den))))
            (cond s1.2.2.1
             (cond s1.2.2.2
              (some (.inl (s1.1,qf .i64 (s1.2.1 + 1),true,true)))
              (some (.inl (s1.1,qf .i64 (s1.2.1 + 1),true,(decide (v98.1.num=v16.1.c) && decide (v98.1.den=v16.1.d))))))
             (cond s1.2.2.2
              (some (.inl (s1.1,qf .i64 (s1.2.1 + 1),(decide (v98.1.num=v16.1.a) && decide (v98.1.den=v16.1.b)),true)))
              (some (.inl (s1.1,qf .i64 (s1.2.1 + 1),(decide (v98.1.num=v16.1.a) && decide (v98.1.den=v16.1.b)),(decide (v98.1.num=v16.1.c) && decide (v98.1.den=v16.1.d)))))))))))))))
    (some (.inl (s1.1,qf .i64 (s1.2.1 + 1),s1.2.2.1,s1.2.2.2))))
   (cond s1.1
    (some (.inl (true,qf .i64 (s1.2.1 + 1),s1.2.2.1,s1.2.2.2)))
    (some (.inl (decide (v98.2=17),qf .i64 (s1.2.1 + 1),s1.2.2.1,s1.2.2.2)))))
  (some (.inr (.inr (s1.1,s1.2.1,s1.2.2.1,s1.2.2.2))))
def kf (a0:yl) (v10:Int) (v16:jy × Int) (v18:GRat × Int) (d43:Bool × Int) (v45:(Option (List (Option (List GEl)))) × Bool) (s1:Bool × Int × Bool × Bool):ASt:=⟨[(2,.vptr (.agg [sl 8 qm a0.parts,sl 1 qo a0.choice,sl 5 jg a0.bands]),false),(5,.int .i64 (qf .i64 (1 + v10)),false),(6,.ptr 0 0,false),(7,.int .i64 v16.2,false),(8,.ptr 1 0,false),(9,.int .i64 v18.2,false),(10,.bool s1.1,false),(11,.bool d43.1,false),(12,.ptr 2 0,false),(89,sl 1 (sl 3 vel) v45.1,v45.2),(90,.int .i64 ((v45.1.getD []).length:Int),false),(91,.int .i64 s1.2.1,false)],[.cells [(.int .i64 v16.1.a,false),(.int .i64 v16.1.b,false),(.int .i64 v16.1.c,false),(.int .i64 v16.1.d,false)],.cells [(.int .i64 v18.1.num,false),(.int .i64 v18.1.den,false)],.cells [(.bool s1.2.2.1,false),(.bool s1.2.2.2,false)]]⟩
def qel (a0:yl) (v10:Int) (v16:jy × Int) (v18:GRat × Int) (d43:Bool × Int) (v45:(Option (List (Option (List GEl)))) × Bool):(Bool × Bool × Int × Int) ⊕ (Bool × Int × Bool × Bool)→ji × ASt
 | .inl d=>(.ret,⟨[(4,.bool false,false)],[.cells [(.int .i64 v16.1.a,false),(.int .i64 v16.1.b,false),(.int .i64 v16.1.c,false),(.int .i64 v16.1.d,false)],.cells [(.int .i64 v18.1.num,false),(.int .i64 v18.1.den,false)],.cells [(.bool d.1,false),(.bool d.2.1,false)],.cells [(.int .i64 d.2.2.1,false),(.int .i64 d.2.2.2,false)]]⟩)
 | .inr d=>(.exit 2,⟨[(2,.vptr (.agg [sl 8 qm a0.parts,sl 1 qo a0.choice,sl 5 jg a0.bands]),false),(5,.int .i64 (qf .i64 (1 + v10)),false),(6,.ptr 0 0,false),(7,.int .i64 v16.2,false),(8,.ptr 1 0,false),(9,.int .i64 v18.2,false),(10,.bool d.1,false),(11,.bool d43.1,false),(12,.ptr 2 0,false),(89,sl 1 (sl 3 vel) v45.1,v45.2),(90,.int .i64 ((v45.1.getD []).length:Int),false),(91,.int .i64 d.2.1,false),(92,.bool false,false)],[.cells [(.int .i64 v16.1.a,false),(.int .i64 v16.1.b,false),(.int .i64 v16.1.c,false),(.int .i64 v16.1.d,false)],.cells [(.int .i64 v18.1.num,false),(.int .i64 v18.1.den,false)],.cells [(.bool d.2.2.1,false),(.bool d.2.2.2,false)]]⟩)
theorem jtk (a0:yl) (v10:Int) (v16:jy × Int) (v18:GRat × Int) (d43:Bool × Int) (v45:(Option (List (Option (List GEl)))) × Bool) (s1:Bool × Int × Bool × Bool) (r) (h:qgv a0 v10 v16 v18 d43 v45 s1=some r):zj prZ qbw (kf a0 v10 v16 v18 d43 v45) (qel a0 v10 v16 v18 d43 v45) s1 r:=by
 unfold qgv at h
 rcases qb h with ⟨h93,h⟩ | ⟨h93,h⟩
 ·obtain ⟨v94,h95,h⟩:=qa h
  obtain ⟨v96,h97,h⟩:=qa h
  have wh97:qc prZ (X prZ) 46 [sl 3 vel v94]=some (sl 3 vel v96.1,v96.2):=Q46 h97
  obtain ⟨v98,h99,h⟩:=qa h
  have wh99:qc prZ (X prZ) 57 [sl 3 vel v96.1,.int .i64 (qf .i64 (1 + v10))]=some (.tup [.agg [.int .i64 v98.1.num,.int .i64 v98.1.den],.int .i64 v98.2],false):=Q57 h99
  rcases qb h with ⟨h100,h⟩ | ⟨h100,h⟩
  ·rcases qb h with ⟨h101,h⟩ | ⟨h101,h⟩
   ·rcases qb h with ⟨h102,h⟩ | ⟨h102,h⟩
    ·cases h
     exact qj (by simp only [go_sem,seval,qbw,kf,h93,q9 h95,wh97,wh99,h100,h101,h102,qel] <;> rfl)
    ·rcases qb h with ⟨h103,h⟩ | ⟨h103,h⟩
     ·cases h
      exact qj (by simp only [go_sem,seval,qbw,kf,h93,q9 h95,wh97,wh99,h100,h101,h102,h103,qel] <;> rfl)
     ·rcases qb h with ⟨h104,h⟩ | ⟨h104,h⟩
      ·cases h
       exact qj (by simp only [go_sem,seval,qbw,kf,h93,q9 h95,wh97,wh99,h100,h101,h102,h103,h104,qel] <;> rfl)
      ·rcases qb h with ⟨h105,h⟩ | ⟨h105,h⟩
       ·cases h
        exact qj (by simp only [go_sem,seval,qbw,kf,h93,q9 h95,wh97,wh99,h100,h101,h102,h103,h104,h105,qel] <;> rfl)
       ·rcases qb h with ⟨h106,h⟩ | ⟨h106,h⟩
        ·cases h
         exact qj (by simp only [go_sem,seval,qbw,kf,h93,q9 h95,wh97,wh99,h100,h101,h102,h103,h104,h105,h106,qel] <;> rfl)
        ·rcases qb h with ⟨h107,h⟩ | ⟨h107,h⟩
         ·cases h
          exact qj (by simp only [go_sem,seval,qbw,kf,h93,q9 h95,wh97,wh99,h100,h101,h102,h103,h104,h105,h106,h107,qel] <;> rfl)
         ·obtain ⟨v108,h109,h⟩:=qa h
          have wh109:qc prZ (X prZ) 58 [.agg [.int .i64 v98.1.num,.int .i64 v98.1.den],.agg [.int .i64 v16.1.a,.int .i64 v16.1.b]]=some (.bool v108,false):=Q58 h109
          rcases qb h with ⟨h110,h⟩ | ⟨h110,h⟩
          ·cases h
           exact qj (by simp only [go_sem,seval,qbw,kf,h93,q9 h95,wh97,wh99,h100,h101,h102,h103,h104,h105,h106,h107,wh109,h110,qel] <;> rfl)
          ·obtain ⟨v111,h112,h⟩:=qa h
           have wh112:qc prZ (X prZ) 58 [.agg [.int .i64 v16.1.c,.int .i64 v16.1.d],.agg [.int .i64 v98.1.num,.int .i64 v98.1.den]]=some (.bool v111,false):=Q58 h112
           rcases qb h with ⟨h113,h⟩ | ⟨h113,h⟩
           ·cases h
            exact qj (by simp only [go_sem,seval,qbw,kf,h93,q9 h95,wh97,wh99,h100,h101,h102,h103,h104,h105,h106,h107,wh109,h110,wh112,h113,qel] <;> rfl)
           ·rcases qb h with ⟨h114,h⟩ | ⟨h114,h⟩
            ·rcases qb h with ⟨h115,h⟩ | ⟨h115,h⟩
             ·cases h
              exact qq (st':=⟨[(2,.vptr (.agg [sl 8 qm a0.parts,sl 1 qo a0.choice,sl 5 jg a0.bands]),false),(5,.int .i64 (qf .i64 (1 + v10)),false),(6,.ptr 0 0,false),(7,.int .i64 v16.2,false),(8,.ptr 1 0,false),(9,.int .i64 v18.2,false),(10,.bool s1.1,false),(11,.bool d43.1,false),(12,.ptr 2 0,false),(89,sl 1 (sl 3 vel) v45.1,v45.2),(90,.int .i64 ((v45.1.getD []).length:Int),false),(91,.int .i64 (qf .i64 (s1.2.1 + 1)),false)],[.cells [(.int .i64 v16.1.a,false),(.int .i64 v16.1.b,false),(.int .i64 v16.1.c,false),(.int .i64 v16.1.d,false)],.cells [(.int .i64 v18.1.num,false),(.int .i64 v18.1.den,false)],.cells [(.bool true,false),(.bool true,false)]]++[.cells [(.int .i64 v98.1.num,false),(.int .i64 v98.1.den,false)]]⟩) (by simp only [go_sem,seval,qbw,kf,h93,q9 h95,wh97,wh99,h100,h101,h102,h103,h104,h105,h106,h107,wh109,h110,wh112,h113,h114,h115] <;> rfl) (zz rfl rfl (by first | simp only [go_sem,seval,kf] | rfl) (by first | simp only [go_sem,seval,kf] | rfl))
             ·cases h
              exact qq (st':=⟨[(2,.vptr (.agg [sl 8 qm a0.parts,sl 1 qo a0.choice,sl 5 jg a0.bands]),false),(5,.int .i64 (qf .i64 (1 + v10)),false),(6,.ptr 0 0,false),(7,.int .i64 v16.2,false),(8,.ptr 1 0,false),(9,.int .i64 v18.2,false),(10,.bool s1.1,false),(11,.bool d43.1,false),(12,.ptr 2 0,false),(89,sl 1 (sl 3 vel) v45.1,v45.2),(90,.int .i64 ((v45.1.getD []).length:Int),false),(91,.int .i64 (qf .i64 (s1.2.1 + 1)),false)],[.cells [(.int .i64 v16.1.a,false),(.int .i64 v16.1.b,false),(.int .i64 v16.1.c,false),(.int .i64 v16.1.d,false)],.cells [(.int .i64 v18.1.num,false),(.int .i64 v18.1.den,false)],.cells [(.bool true,false),(.bool (decide (v98.1.num=v16.1.c) && decide (v98.1.den=v16.1.d)),false)]]++[.cells [(.int .i64 v98.1.num,false),(.int .i64 v98.1.den,false)]]⟩) (by simp only [go_sem,seval,qbw,kf,h93,q9 h95,wh97,wh99,h100,h101,h102,h103,h104,h105,h106,h107,wh109,h110,wh112,h113,h114,h115] <;> rfl) (zz rfl rfl (by first | simp only [go_sem,seval,kf] | rfl) (by first | simp only [go_sem,seval,kf] | rfl))
            ·rcases qb h with ⟨h116,h⟩ | ⟨h116,h⟩
             ·cases h
              exact qq (st':=⟨[(2,.vptr (.agg [sl 8 qm a0.parts,sl 1 qo a0.choice,sl 5 jg a0.bands]),false),(5,.int .i64 (qf .i64 (1 + v10)),false),(6,.ptr 0 0,false),(7,.int .i64 v16.2,false),(8,.ptr 1 0,false),(9,.int .i64 v18.2,false),(10,.bool s1.1,false),(11,.bool d43.1,false),(12,.ptr 2 0,false),(89,sl 1 (sl 3 vel) v45.1,v45.2),(90,.int .i64 ((v45.1.getD []).length:Int),false),(91,.int .i64 (qf .i64 (s1.2.1 + 1)),false)],[.cells [(.int .i64 v16.1.a,false),(.int .i64 v16.1.b,false),(.int .i64 v16.1.c,false),(.int .i64 v16.1.d,false)],.cells [(.int .i64 v18.1.num,false),(.int .i64 v18.1.den,false)],.cells [(.bool (decide (v98.1.num=v16.1.a) && decide (v98.1.den=v16.1.b)),false),(.bool true,false)]]++[.cells [(.int .i64 v98.1.num,false),(.int .i64 v98.1.den,false)]]⟩) (by simp only [go_sem,seval,qbw,kf,h93,q9 h95,wh97,wh99,h100,h101,h102,h103,h104,h105,h106,h107,wh109,h110,wh112,h113,h114,h116] <;> rfl) (zz rfl rfl (by first | simp only [go_sem,seval,kf] | rfl) (by first | simp only [go_sem,seval,kf] | rfl))
             ·cases h
              exact qq (st':=⟨[(2,.vptr (.agg [sl 8 qm a0.parts,sl 1 qo a0.choice,sl 5 jg a0.bands]),false),(5,.int .i64 (qf .i64 (1 + v10)),false),(6,.ptr 0 0,false),(7,.int .i64 v16.2,false),(8,.ptr 1 0,false),(9,.int .i64 v18.2,false),(10,.bool s1.1,false),(11,.bool d43.1,false),(12,.ptr 2 0,false),(89,sl 1 (sl 3 vel) v45.1,v45.2),(90,.int .i64 ((v45.1.getD []).length:Int),false),(91,.int .i64 (qf .i64 (s1.2.1 + 1)),false)],[.cells [(.int .i64 v16.1.a,false),(.int .i64 v16.1.b,false),(.int .i64 v16.1.c,false),(.int .i64 v16.1.d,false)],.cells [(.int .i64 v18.1.num,false),(.int .i64 v18.1.den,false)],.cells [(.bool (decide (v98.1.num=v16.1.a) && decide (v98.1.den=v16.1.b)),false),(.bool (decide (v98.1.num=v16.1.c) && decide (v98.1.den=v16.1.d)),false)]]++[.cells [(.int .i64 v98.1.num,false),(.int .i64 v98.1.den,false)]]⟩) (by simp only [go_sem,seval,qbw,kf,h93,q9 h95,wh97,wh99,h100,h101,h102,h103,h104,h105,h106,h107,wh109,h110,wh112,h113,h114,h116] <;> rfl) (zz rfl rfl (by first | simp only [go_sem,seval,kf] | rfl) (by first | simp only [go_sem,seval,kf] | rfl))
   ·cases h
    exact qq (st':=⟨[(2,.vptr (.agg [sl 8 qm a0.parts,sl 1 qo a0.choice,sl 5 jg a0.bands]),false),(5,.int .i64 (qf .i64 (1 + v10)),false),(6,.ptr 0 0,false),(7,.int .i64 v16.2,false),(8,.ptr 1 0,false),(9,.int .i64 v18.2,false),(10,.bool s1.1,false),(11,.bool d43.1,false),(12,.ptr 2 0,false),(89,sl 1 (sl 3 vel) v45.1,v45.2),(90,.int .i64 ((v45.1.getD []).length:Int),false),(91,.int .i64 (qf .i64 (s1.2.1 + 1)),false)],[.cells [(.int .i64 v16.1.a,false),(.int .i64 v16.1.b,false),(.int .i64 v16.1.c,false),(.int .i64 v16.1.d,false)],.cells [(.int .i64 v18.1.num,false),(.int .i64 v18.1.den,false)],.cells [(.bool s1.2.2.1,false),(.bool s1.2.2.2,false)]]++[.cells [(.int .i64 v98.1.num,false),(.int .i64 v98.1.den,false)]]⟩) (by simp only [go_sem,seval,qbw,kf,h93,q9 h95,wh97,wh99,h100,h101] <;> rfl) (zz rfl rfl (by first | simp only [go_sem,seval,kf] | rfl) (by first | simp only [go_sem,seval,kf] | rfl))
  ·rcases qb h with ⟨h117,h⟩ | ⟨h117,h⟩
   ·cases h
    exact qq (st':=⟨[(2,.vptr (.agg [sl 8 qm a0.parts,sl 1 qo a0.choice,sl 5 jg a0.bands]),false),(5,.int .i64 (qf .i64 (1 + v10)),false),(6,.ptr 0 0,false),(7,.int .i64 v16.2,false),(8,.ptr 1 0,false),(9,.int .i64 v18.2,false),(10,.bool true,false),(11,.bool d43.1,false),(12,.ptr 2 0,false),(89,sl 1 (sl 3 vel) v45.1,v45.2),(90,.int .i64 ((v45.1.getD []).length:Int),false),(91,.int .i64 (qf .i64 (s1.2.1 + 1)),false)],[.cells [(.int .i64 v16.1.a,false),(.int .i64 v16.1.b,false),(.int .i64 v16.1.c,false),(.int .i64 v16.1.d,false)],.cells [(.int .i64 v18.1.num,false),(.int .i64 v18.1.den,false)],.cells [(.bool s1.2.2.1,false),(.bool s1.2.2.2,false)]]++[.cells [(.int .i64 v98.1.num,false),(.int .i64 v98.1.den,false)]]⟩) (by simp only [go_sem,seval,qbw,kf,h93,q9 h95,wh97,wh99,h100,h117] <;> rfl) (zz rfl rfl (by first | simp only [go_sem,seval,kf] | rfl) (by first | simp only [go_sem,seval,kf] | rfl))
   ·cases h
    exact qq (st':=⟨[(2,.vptr (.agg [sl 8 qm a0.parts,sl 1 qo a0.choice,sl 5 jg a0.bands]),false),(5,.int .i64 (qf .i64 (1 + v10)),false),(6,.ptr 0 0,false),(7,.int .i64 v16.2,false),(8,.ptr 1 0,false),(9,.int .i64 v18.2,false),(10,.bool (decide (v98.2=17)),false),(11,.bool d43.1,false),(12,.ptr 2 0,false),(89,sl 1 (sl 3 vel) v45.1,v45.2),(90,.int .i64 ((v45.1.getD []).length:Int),false),(91,.int .i64 (qf .i64 (s1.2.1 + 1)),false)],[.cells [(.int .i64 v16.1.a,false),(.int .i64 v16.1.b,false),(.int .i64 v16.1.c,false),(.int .i64 v16.1.d,false)],.cells [(.int .i64 v18.1.num,false),(.int .i64 v18.1.den,false)],.cells [(.bool s1.2.2.1,false),(.bool s1.2.2.2,false)]]++[.cells [(.int .i64 v98.1.num,false),(.int .i64 v98.1.den,false)]]⟩) (by simp only [go_sem,seval,qbw,kf,h93,q9 h95,wh97,wh99,h100,h117] <;> rfl) (zz rfl rfl (by first | simp only [go_sem,seval,kf] | rfl) (by first | simp only [go_sem,seval,kf] | rfl))
 ·cases h
  exact qj (by simp only [go_sem,seval,qbw,kf,h93,qel] <;> rfl)
theorem jfq (a0:yl) (v10:Int) (v16:jy × Int) (v18:GRat × Int) (d43:Bool × Int) (v45:(Option (List (Option (List GEl)))) × Bool) {s1:Bool × Int × Bool × Bool} {d} (h:itO (qgv a0 v10 v16 v18 d43 v45) s1=some d):X prZ (.loop qbw) (kf a0 v10 v16 v18 d43 v45 s1)=some (qel a0 v10 v16 v18 d43 v45 d):=z7 (jtk a0 v10 v16 v18 d43 v45) (fun d=>by rcases d with d|d <;> (intro hh; cases hh)) h
noncomputable def T7 (z:jy × Int) (a b c d:Int):Option Bool:=
 cond (decide (z.2=0)) (cond (decide (0 < z.1.b)) (cond (decide (0 < z.1.d)) (cond (decide (z.1.a=z.1.c) && decide (z.1.b=z.1.d)) (cond (decide (0≤z.1.a))
  (qe (f58 200 ⟨z.1.a,z.1.b⟩ ⟨a,b⟩) fun u=>cond u none (qe (f58 200 ⟨c,d⟩ ⟨z.1.c,z.1.d⟩) fun v=>cond v none (some true))) none) none) none) none) none
noncomputable def qo7 (a0:yl) (a1:Int) (p5:Int) (p270:Bool) (q0_0:Int) (q0_1:Int) (q0_2:Int) (q0_3:Int) (q1_0:Int) (q1_1:Int) (q2_0:Bool) (q2_1:Bool) (q3_0:Int) (q3_1:Int) (q3_2:Int) (q3_3:Int) (q3_4:Int) (q4_0:Int) (q4_1:Option (List GEl)):Option Bool:=
 cond p270
  (some false)
  (qe (f24 a0.parts) fun v=>match v with
  | (some l,true)=>cond (decide (0 < l.length)) (qe (itO (qmg l.length) (0,l)) fun d=>cond (decide (d.2.length=l.length)) (qe (f30 a0.choice) fun c=>qe (f29 (some d.2) c p5) fun z=>T7 z q0_0 q0_1 q0_2 q0_3) none) none
  | (none,_)=>qe (f30 a0.choice) fun c=>qe (f29 none c p5) fun z=>T7 z q0_0 q0_1 q0_2 q0_3
  | _=>none)
theorem q9p {H:qk} {o:Option (List qi)} {c:Option (List Int)} {w:Int} {z:jy × Int} (h:f29 o c w=some z):q15 prZ (X prZ) H 29 (some [sl 8 qm o,sl 1 qo c,.int .i64 w])=some ⟨.tup [.agg [.int .i64 z.1.a,.int .i64 z.1.b,.int .i64 z.1.c,.int .i64 z.1.d],.int .i64 z.2],false,none,H⟩:=by
 have g:=Q29 h
 have hb:jk 0 [sl 8 qm o,sl 1 qo c,.int .i64 w]=true:=by simp only [go_sem,seval]
 simp only [q15,hb,cond_true,g]
 rfl
theorem q9c {a0:yl} {a1:Int} {p5:Int} {p270:Bool} {q0_0:Int} {q0_1:Int} {q0_2:Int} {q0_3:Int} {q1_0:Int} {q1_1:Int} {q2_0:Bool} {q2_1:Bool} {q3_0:Int} {q3_1:Int} {q3_2:Int} {q3_3:Int} {q3_4:Int} {q4_0:Int} {q4_1:Option (List GEl)} {r} (h:qo7 a0 a1 p5 p270 q0_0 q0_1 q0_2 q0_3 q1_0 q1_1 q2_0 q2_1 q3_0 q3_1 q3_2 q3_3 q3_4 q4_0 q4_1=some r):∃ hh,qg7 (X prZ qns ⟨[(2,.vptr (.agg [sl 8 qm a0.parts,sl 1 qo a0.choice,sl 5 jg a0.bands]),false),(5,.int .i64 p5,false),(6,.ptr 0 0,false),(270,.bool p270,false)],[.cells [(.int .i64 q0_0,false),(.int .i64 q0_1,false),(.int .i64 q0_2,false),(.int .i64 q0_3,false)],.cells [(.int .i64 q1_0,false),(.int .i64 q1_1,false)],.cells [(.bool q2_0,false),(.bool q2_1,false)],.cells [(.int .i64 q3_0,false),(.int .i64 q3_1,false),(.int .i64 q3_2,false),(.int .i64 q3_3,false),(.int .i64 q3_4,false)],.cells [(.int .i64 q4_0,false),(sl 3 vel q4_1,false)]]⟩) (X prZ qnz)=some (.ret,⟨[(4,.bool r,false)],hh⟩):=by
 unfold qo7 at h
 rcases qb h with ⟨h159,h⟩ | ⟨h159,h⟩
 ·have hr:false=r:=Option.some.inj h
  subst hr
  refine ⟨[.cells [(.int .i64 q0_0,false),(.int .i64 q0_1,false),(.int .i64 q0_2,false),(.int .i64 q0_3,false)],.cells [(.int .i64 q1_0,false),(.int .i64 q1_1,false)],.cells [(.bool q2_0,false),(.bool q2_1,false)],.cells [(.int .i64 q3_0,false),(.int .i64 q3_1,false),(.int .i64 q3_2,false),(.int .i64 q3_3,false),(.int .i64 q3_4,false)],.cells [(.int .i64 q4_0,false),(sl 3 vel q4_1,false)]],?_⟩
  simp only [go_sem,seval,qns,qnz,h159] <;> rfl
 ·obtain ⟨v,k1,h⟩:=qa h
  obtain ⟨o,ow⟩:=v
  cases o with
  | none=>
   dsimp only at h
   obtain ⟨c,k5,h⟩:=qa h
   obtain ⟨z,k6,h⟩:=qa h
   unfold T7 at h
   rcases qb h with ⟨t1,h⟩ | ⟨_,h⟩
   ·rcases qb h with ⟨t2,h⟩ | ⟨_,h⟩
    ·rcases qb h with ⟨t3,h⟩ | ⟨_,h⟩
     ·rcases qb h with ⟨t4,h⟩ | ⟨_,h⟩
      ·rcases qb h with ⟨t5,h⟩ | ⟨_,h⟩
       ·obtain ⟨u,t6,h⟩:=qa h
        rcases qb h with ⟨_,h⟩ | ⟨t7,h⟩
        ·cases h
        ·obtain ⟨y,t8,h⟩:=qa h
         rcases qb h with ⟨_,h⟩ | ⟨t9,h⟩
         ·cases h
         ·have hr:true=r:=Option.some.inj h
          subst hr
          have g1:=Q24 k1
          have g2:=Q30 k5
          have ht:∀ (a b c d e:ABox) (o:Bool),qb2 5 [a,b,c,d,e,.hole] 0 (sl 8 qm none) o=some ⟨.list true 0 [],false,none,[a,b,c,d,e,.dead]⟩:=fun a b c d e o=>rfl
          have wl:∀ (cv:AVal) (a b x y e:ABox),X prZ (.loop qqh) ⟨[(2,.vptr cv,false),(5,.int .i64 p5,false),(6,.ptr 0 0,false),(22,.list true 0 [],false),(275,.int .i64 0,false),(276,.int .i64 0,false)],[a,b,x,y,e,.dead]⟩=some (.exit 4,⟨[(2,.vptr cv,false),(5,.int .i64 p5,false),(6,.ptr 0 0,false),(22,.list true 0 [],false),(275,.int .i64 0,false),(276,.int .i64 0,false),(277,.bool false,false)],[a,b,x,y,e,.dead]⟩):=fun cv a b x y e=>by
           rw [qzy]
           simp only [go_sem,seval,qqh] <;> rfl
          have hf:∀ a b x y e:ABox,qcb [a,b,x,y,e,.dead,.hole] [.list true 0 [],sl 1 qo c,.int .i64 p5]=some [sl 8 qm none,sl 1 qo c,.int .i64 p5]:=fun a b x y e=>by
           cases c <;> rfl
          have g3:=fun H:qk=>q9p (H:=H) k6
          have g4:=Q58 t6
          have g5:=Q58 t8
          refine ⟨[.cells [(.int .i64 q0_0,false),(.int .i64 q0_1,false),(.int .i64 q0_2,false),(.int .i64 q0_3,false)],.cells [(.int .i64 q1_0,false),(.int .i64 q1_1,false)],.cells [(.bool q2_0,false),(.bool q2_1,false)],.cells [(.int .i64 q3_0,false),(.int .i64 q3_1,false),(.int .i64 q3_2,false),(.int .i64 q3_3,false),(.int .i64 q3_4,false)],.cells [(.int .i64 q4_0,false),(sl 3 vel q4_1,false)],.dead,.cells [(.int .i64 z.1.a,false),(.int .i64 z.1.b,false),(.int .i64 z.1.c,false),(.int .i64 z.1.d,false)]],?_⟩
          simp only [go_sem,seval,qns,qnz,h159,g1,ht,wl,g2,hf,g3,t1,t2,t3,t4,t5,g4,g5,t7,t9]
       ·cases h
      ·cases h
     ·cases h
    ·cases h
   ·cases h
  | some l=>
   cases ow with
   | false=>cases h
   | true=>
    dsimp only at h
    rcases qb h with ⟨k2,h⟩ | ⟨_,h⟩
    ·obtain ⟨d,k3,h⟩:=qa h
     rcases qb h with ⟨k4,h⟩ | ⟨_,h⟩
     ·obtain ⟨c,k5,h⟩:=qa h
      obtain ⟨z,k6,h⟩:=qa h
      unfold T7 at h
      rcases qb h with ⟨t1,h⟩ | ⟨_,h⟩
      ·rcases qb h with ⟨t2,h⟩ | ⟨_,h⟩
       ·rcases qb h with ⟨t3,h⟩ | ⟨_,h⟩
        ·rcases qb h with ⟨t4,h⟩ | ⟨_,h⟩
         ·rcases qb h with ⟨t5,h⟩ | ⟨_,h⟩
          ·obtain ⟨u,t6,h⟩:=qa h
           rcases qb h with ⟨_,h⟩ | ⟨t7,h⟩
           ·cases h
           ·obtain ⟨y,t8,h⟩:=qa h
            rcases qb h with ⟨_,h⟩ | ⟨t9,h⟩
            ·cases h
            ·have hr:true=r:=Option.some.inj h
             subst hr
             have k4:d.2.length=l.length:=of_decide_eq_true k4
             have k2:0 < l.length:=of_decide_eq_true k2
             have g1:=Q24 k1
             have g2:=Q30 k5
             have ht:∀ a b c d e:ABox,qb2 5 [a,b,c,d,e,.hole] 0 (sl 8 qm (some l)) true=some ⟨.ms 5 0 l.length,false,none,[a,b,c,d,e,.cells (pcl l)]⟩:=fun a b c d e=>q20 rfl
             have wl:=fun cv a b c d e=>jsk cv p5 a b c d e l.length k3
             simp only [qq5,qvw] at wl
             have hf:∀ a b x y e:ABox,qcb [a,b,x,y,e,.cells (pcl d.2),.hole] [.ms 5 0 l.length,sl 1 qo c,.int .i64 p5]=some [sl 8 qm (some d.2),sl 1 qo c,.int .i64 p5]:=fun a b x y e=>by
              have:=q3q (h:=[a,b,x,y,e,.cells (pcl d.2),.hole]) (b:=5) (l:=d.2) rfl (by omega)
              rw [k4] at this
              have e2:qkm [a,b,x,y,e,.cells (pcl d.2),.hole] (sl 1 qo c)=some (sl 1 qo c):=by cases c <;> rfl
              simp only [qcb,this,e2]
              rfl
             have g3:=fun H:qk=>q9p (H:=H) k6
             have g4:=Q58 t6
             have g5:=Q58 t8
             refine ⟨[.cells [(.int .i64 q0_0,false),(.int .i64 q0_1,false),(.int .i64 q0_2,false),(.int .i64 q0_3,false)],.cells [(.int .i64 q1_0,false),(.int .i64 q1_1,false)],.cells [(.bool q2_0,false),(.bool q2_1,false)],.cells [(.int .i64 q3_0,false),(.int .i64 q3_1,false),(.int .i64 q3_2,false),(.int .i64 q3_3,false),(.int .i64 q3_4,false)],.cells [(.int .i64 q4_0,false),(sl 3 vel q4_1,false)],.cells (pcl d.2),.cells [(.int .i64 z.1.a,false),(.int .i64 z.1.b,false),(.int .i64 z.1.c,false),(.int .i64 z.1.d,false)]],?_⟩
             simp only [go_sem,seval,qns,qnz,h159,g1,ht,wl,g2,hf,g3,t1,t2,t3,t4,t5,g4,g5,t7,t9]
          ·cases h
         ·cases h
        ·cases h
       ·cases h
      ·cases h
     ·cases h
    ·cases h
noncomputable def qe6 (a0:yl) (a1:Int) (p5:Int) (p234:Bool) (q0_0:Int) (q0_1:Int) (q0_2:Int) (q0_3:Int) (q1_0:Int) (q1_1:Int) (q2_0:Bool) (q2_1:Bool):Option Bool:=
 cond p234
  (some false)
  (qe (zw (a0.bands.getD []) 0) fun v144=>
  qe (f24 a0.parts) fun v146=>
  qe (f30 a0.choice) fun v148=>
  qe (f38 (some [⟨p5,v144.ln,v144.ld,v144.mn,v144.md⟩])) fun v150=>
  qe (f59 v146.1 v148 v150.1) fun v152=>
  qe (f58 200 (⟨q0_0,q0_1⟩) (⟨v144.ln,v144.ld⟩)) fun v154=>
  cond v154
   (qo7 a0 a1 p5 (!(decide (v152.2=7) == false)) q0_0 q0_1 q0_2 q0_3 q1_0 q1_1 q2_0 q2_1 p5 v144.ln v144.ld v144.mn v144.md v152.1.band v152.1.ladder)
   (qe (f58 200 (⟨v144.mn,v144.md⟩) (⟨q0_2,q0_3⟩)) fun v157=>
   qo7 a0 a1 p5 (!(decide (v152.2=7) == !v157)) q0_0 q0_1 q0_2 q0_3 q1_0 q1_1 q2_0 q2_1 p5 v144.ln v144.ld v144.mn v144.md v152.1.band v152.1.ladder))
theorem ql4 {a0:yl} {a1:Int} {p5:Int} {p234:Bool} {q0_0:Int} {q0_1:Int} {q0_2:Int} {q0_3:Int} {q1_0:Int} {q1_1:Int} {q2_0:Bool} {q2_1:Bool} {r} (h:qe6 a0 a1 p5 p234 q0_0 q0_1 q0_2 q0_3 q1_0 q1_1 q2_0 q2_1=some r):∃ hh,qg7 (X prZ qn4 ⟨[(2,.vptr (.agg [sl 8 qm a0.parts,sl 1 qo a0.choice,sl 5 jg a0.bands]),false),(5,.int .i64 p5,false),(6,.ptr 0 0,false),(234,.bool p234,false)],[.cells [(.int .i64 q0_0,false),(.int .i64 q0_1,false),(.int .i64 q0_2,false),(.int .i64 q0_3,false)],.cells [(.int .i64 q1_0,false),(.int .i64 q1_1,false)],.cells [(.bool q2_0,false),(.bool q2_1,false)]]⟩) (X prZ qoa)=some (.ret,⟨[(4,.bool r,false)],hh⟩):=by
 unfold qe6 at h
 rcases qb h with ⟨h143,h⟩ | ⟨h143,h⟩
 ·have hr:false=r:=Option.some.inj h
  subst hr
  refine ⟨[.cells [(.int .i64 q0_0,false),(.int .i64 q0_1,false),(.int .i64 q0_2,false),(.int .i64 q0_3,false)],.cells [(.int .i64 q1_0,false),(.int .i64 q1_1,false)],.cells [(.bool q2_0,false),(.bool q2_1,false)]],?_⟩
  simp only [go_sem,seval,qn4,qoa,h143] <;> rfl
 ·obtain ⟨v144,h145,h⟩:=qa h
  obtain ⟨v146,h147,h⟩:=qa h
  have wh147:qc prZ (X prZ) 24 [sl 8 qm a0.parts]=some (sl 8 qm v146.1,v146.2):=Q24 h147
  obtain ⟨v148,h149,h⟩:=qa h
  have wh149:qc prZ (X prZ) 30 [sl 1 qo a0.choice]=some (sl 1 qo v148,true):=Q30 h149
  obtain ⟨v150,h151,h⟩:=qa h
  have wh151:qc prZ (X prZ) 38 [.list false 5 [.agg [.int .i64 p5,.int .i64 v144.ln,.int .i64 v144.ld,.int .i64 v144.mn,.int .i64 v144.md]]]=some (sl 5 jg v150.1,v150.2):=Q38 h151
  obtain ⟨v152,h153,h⟩:=qa h
  have wh153:qc prZ (X prZ) 59 [sl 8 qm v146.1,sl 1 qo v148,sl 5 jg v150.1]=some (.tup [.agg [.int .i64 v152.1.band,sl 3 vel v152.1.ladder],.int .i64 v152.2],false):=Q59 h153
  obtain ⟨v154,h155,h⟩:=qa h
  have wh155:qc prZ (X prZ) 58 [.agg [.int .i64 q0_0,.int .i64 q0_1],.agg [.int .i64 v144.ln,.int .i64 v144.ld]]=some (.bool v154,false):=Q58 h155
  rcases qb h with ⟨h156,h⟩ | ⟨h156,h⟩
  ·obtain ⟨hh,hk⟩:=q9c h
   refine ⟨hh,?_⟩
   simp only [go_sem,seval,qn4,qoa,h143,q9 h145,wh147,wh149,wh151,wh153,wh155,h156]
   exact hk
  ·obtain ⟨v157,h158,h⟩:=qa h
   have wh158:qc prZ (X prZ) 58 [.agg [.int .i64 v144.mn,.int .i64 v144.md],.agg [.int .i64 q0_2,.int .i64 q0_3]]=some (.bool v157,false):=Q58 h158
   obtain ⟨hh,hk⟩:=q9c h
   refine ⟨hh,?_⟩
   simp only [go_sem,seval,qn4,qoa,h143,q9 h145,wh147,wh149,wh151,wh153,wh155,h156,wh158]
   exact hk
noncomputable def qvm (a0:yl) (a1:Int) (p5:Int) (p11:Bool) (p205:Bool) (q0_0:Int) (q0_1:Int) (q0_2:Int) (q0_3:Int) (q1_0:Int) (q1_1:Int) (q2_0:Bool) (q2_1:Bool):Option Bool:=
 cond p205
  (some true)
  (cond (decide (q1_1 < 1))
   (qe6 a0 a1 p5 true q0_0 q0_1 q0_2 q0_3 q1_0 q1_1 q2_0 q2_1)
   (cond (decide (q1_0 < 0))
    (qe6 a0 a1 p5 true q0_0 q0_1 q0_2 q0_3 q1_0 q1_1 q2_0 q2_1)
    (cond p11
     (cond (decide (q1_0=q0_0) && decide (q1_1=q0_1))
      (qe (f58 200 (⟨q1_0,q1_1⟩) (⟨q0_0,q0_1⟩)) fun v133=>
      cond v133
       (qe6 a0 a1 p5 true q0_0 q0_1 q0_2 q0_3 q1_0 q1_1 q2_0 q2_1)
       (qe (f58 200 (⟨q0_2,q0_3⟩) (⟨q1_0,q1_1⟩)) fun v136=>
       qe6 a0 a1 p5 v136 q0_0 q0_1 q0_2 q0_3 q1_0 q1_1 q2_0 q2_1))
      (qe6 a0 a1 p5 true q0_0 q0_1 q0_2 q0_3 q1_0 q1_1 q2_0 q2_1))
     (qe (f58 200 (⟨q1_0,q1_1⟩) (⟨q0_0,q0_1⟩)) fun v138=>
     cond v138
      (qe6 a0 a1 p5 true q0_0 q0_1 q0_2 q0_3 q1_0 q1_1 q2_0 q2_1)
      (qe (f58 200 (⟨q0_2,q0_3⟩) (⟨q1_0,q1_1⟩)) fun v141=>
      qe6 a0 a1 p5 v141 q0_0 q0_1 q0_2 q0_3 q1_0 q1_1 q2_0 q2_1)))))
theorem jkl {a0:yl} {a1:Int} {p5:Int} {p11:Bool} {p205:Bool} {q0_0:Int} {q0_1:Int} {q0_2:Int} {q0_3:Int} {q1_0:Int} {q1_1:Int} {q2_0:Bool} {q2_1:Bool} {r} (h:qvm a0 a1 p5 p11 p205 q0_0 q0_1 q0_2 q0_3 q1_0 q1_1 q2_0 q2_1=some r):∃ hh,qg7 (X prZ qdq ⟨[(2,.vptr (.agg [sl 8 qm a0.parts,sl 1 qo a0.choice,sl 5 jg a0.bands]),false),(5,.int .i64 p5,false),(6,.ptr 0 0,false),(8,.ptr 1 0,false),(11,.bool p11,false),(205,.bool p205,false)],[.cells [(.int .i64 q0_0,false),(.int .i64 q0_1,false),(.int .i64 q0_2,false),(.int .i64 q0_3,false)],.cells [(.int .i64 q1_0,false),(.int .i64 q1_1,false)],.cells [(.bool q2_0,false),(.bool q2_1,false)]]⟩) (X prZ qdr)=some (.ret,⟨[(4,.bool r,false)],hh⟩):=by
 unfold qvm at h
 rcases qb h with ⟨h128,h⟩ | ⟨h128,h⟩
 ·have hr:true=r:=Option.some.inj h
  subst hr
  refine ⟨[.cells [(.int .i64 q0_0,false),(.int .i64 q0_1,false),(.int .i64 q0_2,false),(.int .i64 q0_3,false)],.cells [(.int .i64 q1_0,false),(.int .i64 q1_1,false)],.cells [(.bool q2_0,false),(.bool q2_1,false)]],?_⟩
  simp only [go_sem,seval,qdq,qdr,h128] <;> rfl
 ·rcases qb h with ⟨h129,h⟩ | ⟨h129,h⟩
  ·obtain ⟨hh,hk⟩:=ql4 h
   refine ⟨hh,?_⟩
   simp only [go_sem,seval,qdq,qdr,h128,h129]
   exact hk
  ·rcases qb h with ⟨h130,h⟩ | ⟨h130,h⟩
   ·obtain ⟨hh,hk⟩:=ql4 h
    refine ⟨hh,?_⟩
    simp only [go_sem,seval,qdq,qdr,h128,h129,h130]
    exact hk
   ·rcases qb h with ⟨h131,h⟩ | ⟨h131,h⟩
    ·rcases qb h with ⟨h132,h⟩ | ⟨h132,h⟩
     ·obtain ⟨v133,h134,h⟩:=qa h
      have wh134:qc prZ (X prZ) 58 [.agg [.int .i64 q1_0,.int .i64 q1_1],.agg [.int .i64 q0_0,.int .i64 q0_1]]=some (.bool v133,false):=Q58 h134
      rcases qb h with ⟨h135,h⟩ | ⟨h135,h⟩
      ·obtain ⟨hh,hk⟩:=ql4 h
       refine ⟨hh,?_⟩
       simp only [go_sem,seval,qdq,qdr,h128,h129,h130,h131,h132,wh134,h135]
       exact hk
      ·obtain ⟨v136,h137,h⟩:=qa h
       have wh137:qc prZ (X prZ) 58 [.agg [.int .i64 q0_2,.int .i64 q0_3],.agg [.int .i64 q1_0,.int .i64 q1_1]]=some (.bool v136,false):=Q58 h137
       obtain ⟨hh,hk⟩:=ql4 h
       refine ⟨hh,?_⟩
       simp only [go_sem,seval,qdq,qdr,h128,h129,h130,h131,h132,wh134,h135,wh137]
       exact hk
     ·obtain ⟨hh,hk⟩:=ql4 h
      refine ⟨hh,?_⟩
      simp only [go_sem,seval,qdq,qdr,h128,h129,h130,h131,h132]
      exact hk
    ·obtain ⟨v138,h139,h⟩:=qa h
     have wh139:qc prZ (X prZ) 58 [.agg [.int .i64 q1_0,.int .i64 q1_1],.agg [.int .i64 q0_0,.int .i64 q0_1]]=some (.bool v138,false):=Q58 h139
     rcases qb h with ⟨h140,h⟩ | ⟨h140,h⟩
     ·obtain ⟨hh,hk⟩:=ql4 h
      refine ⟨hh,?_⟩
      simp only [go_sem,seval,qdq,qdr,h128,h129,h130,h131,wh139,h140]
      exact hk
     ·obtain ⟨v141,h142,h⟩:=qa h
      have wh142:qc prZ (X prZ) 58 [.agg [.int .i64 q0_2,.int .i64 q0_3],.agg [.int .i64 q1_0,.int .i64 q1_1]]=some (.bool v141,false):=Q58 h142
      obtain ⟨hh,hk⟩:=ql4 h
      refine ⟨hh,?_⟩
      simp only [go_sem,seval,qdq,qdr,h128,h129,h130,h131,wh139,h140,wh142]
      exact hk
noncomputable def qjy (a0:yl) (a1:Int) (p5:Int) (p7:Int) (p11:Bool) (p203:Bool) (q0_0:Int) (q0_1:Int) (q0_2:Int) (q0_3:Int) (q1_0:Int) (q1_1:Int) (q2_0:Bool) (q2_1:Bool):Option Bool:=
 cond p203
  (some false)
  (qvm a0 a1 p5 p11 (!decide (p7=0)) q0_0 q0_1 q0_2 q0_3 q1_0 q1_1 q2_0 q2_1)
theorem qti {a0:yl} {a1:Int} {p5:Int} {p7:Int} {p11:Bool} {p203:Bool} {q0_0:Int} {q0_1:Int} {q0_2:Int} {q0_3:Int} {q1_0:Int} {q1_1:Int} {q2_0:Bool} {q2_1:Bool} {r} (h:qjy a0 a1 p5 p7 p11 p203 q0_0 q0_1 q0_2 q0_3 q1_0 q1_1 q2_0 q2_1=some r):∃ hh,qg7 (X prZ qvr ⟨[(2,.vptr (.agg [sl 8 qm a0.parts,sl 1 qo a0.choice,sl 5 jg a0.bands]),false),(5,.int .i64 p5,false),(6,.ptr 0 0,false),(7,.int .i64 p7,false),(8,.ptr 1 0,false),(11,.bool p11,false),(203,.bool p203,false)],[.cells [(.int .i64 q0_0,false),(.int .i64 q0_1,false),(.int .i64 q0_2,false),(.int .i64 q0_3,false)],.cells [(.int .i64 q1_0,false),(.int .i64 q1_1,false)],.cells [(.bool q2_0,false),(.bool q2_1,false)]]⟩) (X prZ qq1)=some (.ret,⟨[(4,.bool r,false)],hh⟩):=by
 unfold qjy at h
 rcases qb h with ⟨h127,h⟩ | ⟨h127,h⟩
 ·have hr:false=r:=Option.some.inj h
  subst hr
  refine ⟨[.cells [(.int .i64 q0_0,false),(.int .i64 q0_1,false),(.int .i64 q0_2,false),(.int .i64 q0_3,false)],.cells [(.int .i64 q1_0,false),(.int .i64 q1_1,false)],.cells [(.bool q2_0,false),(.bool q2_1,false)]],?_⟩
  simp only [go_sem,seval,qvr,qq1,h127] <;> rfl
 ·obtain ⟨hh,hk⟩:=jkl h
  refine ⟨hh,?_⟩
  simp only [go_sem,seval,qvr,qq1,h127]
  exact hk
noncomputable def f7 (a0:yl) (a1:Int):Option Bool:=
 qe (E16) fun v1=>
 cond v1
  (qe (f28 a0) fun v4=>
  cond v4
   (qe (f54 a0) fun v7=>
   cond (decide (v7=0))
    (qe (qeq (qf .i64 a1) 8) fun v10=>
    qe (f24 a0.parts) fun v12=>
    qe (f30 a0.choice) fun v14=>
    qe (f29 v12.1 v14 (qf .i64 (1 + v10))) fun v16=>
    qe (f31 v12.1 v14 (qf .i64 (1 + v10))) fun v18=>
    qe (itO (qlz a0 v10 v16 v18) (true,0)) fun d43=>
    qe (f56 a0.parts a0.choice) fun v45=>
    qe (itO (qgv a0 v10 v16 v18 d43 v45) (false,0,false,false)) fun d118=>match d118 with
     | .inl d120=>
      some false
     | .inr d121=>
      cond (decide (v16.2=17) == d121.1)
       (cond (decide (v16.2=0))
        (cond (decide (v18.2=0))
         (cond d121.2.2.1
          (qjy a0 a1 (qf .i64 (1 + v10)) v16.2 d43.1 (!d121.2.2.2) v16.1.a v16.1.b v16.1.c v16.1.d v18.1.num v18.1.den true d121.2.2.2)
          (qjy a0 a1 (qf .i64 (1 + v10)) v16.2 d43.1 true v16.1.a v16.1.b v16.1.c v16.1.d v18.1.num v18.1.den false d121.2.2.2))
         (qjy a0 a1 (qf .i64 (1 + v10)) v16.2 d43.1 true v16.1.a v16.1.b v16.1.c v16.1.d v18.1.num v18.1.den d121.2.2.1 d121.2.2.2))
        (cond (decide (v16.2=17))
         (qjy a0 a1 (qf .i64 (1 + v10)) v16.2 d43.1 false v16.1.a v16.1.b v16.1.c v16.1.d v18.1.num v18.1.den d121.2.2.1 d121.2.2.2)
         (qjy a0 a1 (qf .i64 (1 + v10)) v16.2 d43.1 true v16.1.a v16.1.b v16.1.c v16.1.d v18.1.num v18.1.den d121.2.2.1 d121.2.2.2)))
       (qjy a0 a1 (qf .i64 (1 + v10)) v16.2 d43.1 true v16.1.a v16.1.b v16.1.c v16.1.d v18.1.num v18.1.den d121.2.2.1 d121.2.2.2))
    (some v1))
   (some v1))
  (some v1)
theorem W7 {a0:yl} {a1:Int} {r} (h:f7 a0 a1=some r):qc prZ (X prZ) 7 [.agg [sl 8 qm a0.parts,sl 1 qo a0.choice,sl 5 jg a0.bands],.int .u8 a1]=some (.bool r,false):=by
 unfold f7 at h
 obtain ⟨v1,h2,h⟩:=qa h
 have wh2:qc prZ (X prZ) 16 []=some (.bool v1,false):=Q16 h2
 rcases qb h with ⟨h3,h⟩ | ⟨h3,h⟩
 ·obtain ⟨v4,h5,h⟩:=qa h
  have wh5:qc prZ (X prZ) 28 [.agg [sl 8 qm a0.parts,sl 1 qo a0.choice,sl 5 jg a0.bands]]=some (.bool v4,false):=Q28 h5
  rcases qb h with ⟨h6,h⟩ | ⟨h6,h⟩
  ·obtain ⟨v7,h8,h⟩:=qa h
   have wh8:qc prZ (X prZ) 54 [.agg [sl 8 qm a0.parts,sl 1 qo a0.choice,sl 5 jg a0.bands]]=some (.int .i64 v7,false):=Q54 h8
   rcases qb h with ⟨h9,h⟩ | ⟨h9,h⟩
   ·obtain ⟨v10,h11,h⟩:=qa h
    obtain ⟨v12,h13,h⟩:=qa h
    have wh13:qc prZ (X prZ) 24 [sl 8 qm a0.parts]=some (sl 8 qm v12.1,v12.2):=Q24 h13
    obtain ⟨v14,h15,h⟩:=qa h
    have wh15:qc prZ (X prZ) 30 [sl 1 qo a0.choice]=some (sl 1 qo v14,true):=Q30 h15
    obtain ⟨v16,h17,h⟩:=qa h
    have wh17:qc prZ (X prZ) 29 [sl 8 qm v12.1,sl 1 qo v14,.int .i64 (qf .i64 (1 + v10))]=some (.tup [.agg [.int .i64 v16.1.a,.int .i64 v16.1.b,.int .i64 v16.1.c,.int .i64 v16.1.d],.int .i64 v16.2],false):=Q29 h17
    obtain ⟨v18,h19,h⟩:=qa h
    have wh19:qc prZ (X prZ) 31 [sl 8 qm v12.1,sl 1 qo v14,.int .i64 (qf .i64 (1 + v10))]=some (.tup [.agg [.int .i64 v18.1.num,.int .i64 v18.1.den],.int .i64 v18.2],false):=Q31 h19
    obtain ⟨d43,h44,h⟩:=qa h
    have wh44:X prZ (.loop qqm) ⟨[(2,.vptr (.agg [sl 8 qm a0.parts,sl 1 qo a0.choice,sl 5 jg a0.bands]),false),(5,.int .i64 (qf .i64 (1 + v10)),false),(6,.ptr 0 0,false),(7,.int .i64 v16.2,false),(8,.ptr 1 0,false),(9,.int .i64 v18.2,false),(10,.bool false,false),(11,.bool true,false),(12,.ptr 2 0,false),(66,sl 1 qo a0.choice,false),(67,.int .i64 ((a0.choice.getD []).length:Int),false),(68,.int .i64 0,false)],[.cells [(.int .i64 v16.1.a,false),(.int .i64 v16.1.b,false),(.int .i64 v16.1.c,false),(.int .i64 v16.1.d,false)],.cells [(.int .i64 v18.1.num,false),(.int .i64 v18.1.den,false)],.cells [(.bool false,false),(.bool false,false)]]⟩=some (.exit 0,⟨[(2,.vptr (.agg [sl 8 qm a0.parts,sl 1 qo a0.choice,sl 5 jg a0.bands]),false),(5,.int .i64 (qf .i64 (1 + v10)),false),(6,.ptr 0 0,false),(7,.int .i64 v16.2,false),(8,.ptr 1 0,false),(9,.int .i64 v18.2,false),(10,.bool false,false),(11,.bool d43.1,false),(12,.ptr 2 0,false),(66,sl 1 qo a0.choice,false),(67,.int .i64 ((a0.choice.getD []).length:Int),false),(68,.int .i64 d43.2,false),(69,.bool false,false)],[.cells [(.int .i64 v16.1.a,false),(.int .i64 v16.1.b,false),(.int .i64 v16.1.c,false),(.int .i64 v16.1.d,false)],.cells [(.int .i64 v18.1.num,false),(.int .i64 v18.1.den,false)],.cells [(.bool false,false),(.bool false,false)]]⟩):=jpu a0 v10 v16 v18 h44
    obtain ⟨v45,h46,h⟩:=qa h
    have wh46:qc prZ (X prZ) 56 [sl 8 qm a0.parts,sl 1 qo a0.choice]=some (sl 1 (sl 3 vel) v45.1,v45.2):=Q56 h46
    obtain ⟨d118,h119,h⟩:=qa h
    rcases d118 with d120 | d121
    ·have wh119:X prZ (.loop qbw) ⟨[(2,.vptr (.agg [sl 8 qm a0.parts,sl 1 qo a0.choice,sl 5 jg a0.bands]),false),(5,.int .i64 (qf .i64 (1 + v10)),false),(6,.ptr 0 0,false),(7,.int .i64 v16.2,false),(8,.ptr 1 0,false),(9,.int .i64 v18.2,false),(10,.bool false,false),(11,.bool d43.1,false),(12,.ptr 2 0,false),(89,sl 1 (sl 3 vel) v45.1,v45.2),(90,.int .i64 ((v45.1.getD []).length:Int),false),(91,.int .i64 0,false)],[.cells [(.int .i64 v16.1.a,false),(.int .i64 v16.1.b,false),(.int .i64 v16.1.c,false),(.int .i64 v16.1.d,false)],.cells [(.int .i64 v18.1.num,false),(.int .i64 v18.1.den,false)],.cells [(.bool false,false),(.bool false,false)]]⟩=some (.ret,⟨[(4,.bool false,false)],[.cells [(.int .i64 v16.1.a,false),(.int .i64 v16.1.b,false),(.int .i64 v16.1.c,false),(.int .i64 v16.1.d,false)],.cells [(.int .i64 v18.1.num,false),(.int .i64 v18.1.den,false)],.cells [(.bool d120.1,false),(.bool d120.2.1,false)],.cells [(.int .i64 d120.2.2.1,false),(.int .i64 d120.2.2.2,false)]]⟩):=jfq a0 v10 v16 v18 d43 v45 h119
     have hr:false=r:=Option.some.inj h
     subst hr
     have this:∃ hh,jl prZ (X prZ) 7 [.agg [sl 8 qm a0.parts,sl 1 qo a0.choice,sl 5 jg a0.bands],.int .u8 a1] []=some (.bool false,false,hh):=by
      rw [qh (show prZ.fns 7=some c7 from rfl) (by simp)]
      simp only [go_sem,seval,c7,wh2,h3,wh5,h6,wh8,h9,qan h11,wh13,wh15,wh17,wh19,wh44,wh46,wh119]
      exact ⟨_,rfl⟩
     obtain ⟨hh,this⟩:=this
     exact ym rfl this (by first | rfl | simp only [go_sem,seval]) (by first | rfl | simp only [go_sem,seval])
    ·have wh119:X prZ (.loop qbw) ⟨[(2,.vptr (.agg [sl 8 qm a0.parts,sl 1 qo a0.choice,sl 5 jg a0.bands]),false),(5,.int .i64 (qf .i64 (1 + v10)),false),(6,.ptr 0 0,false),(7,.int .i64 v16.2,false),(8,.ptr 1 0,false),(9,.int .i64 v18.2,false),(10,.bool false,false),(11,.bool d43.1,false),(12,.ptr 2 0,false),(89,sl 1 (sl 3 vel) v45.1,v45.2),(90,.int .i64 ((v45.1.getD []).length:Int),false),(91,.int .i64 0,false)],[.cells [(.int .i64 v16.1.a,false),(.int .i64 v16.1.b,false),(.int .i64 v16.1.c,false),(.int .i64 v16.1.d,false)],.cells [(.int .i64 v18.1.num,false),(.int .i64 v18.1.den,false)],.cells [(.bool false,false),(.bool false,false)]]⟩=some (.exit 2,⟨[(2,.vptr (.agg [sl 8 qm a0.parts,sl 1 qo a0.choice,sl 5 jg a0.bands]),false),(5,.int .i64 (qf .i64 (1 + v10)),false),(6,.ptr 0 0,false),(7,.int .i64 v16.2,false),(8,.ptr 1 0,false),(9,.int .i64 v18.2,false),(10,.bool d121.1,false),(11,.bool d43.1,false),(12,.ptr 2 0,false),(89,sl 1 (sl 3 vel) v45.1,v45.2),(90,.int .i64 ((v45.1.getD []).length:Int),false),(91,.int .i64 d121.2.1,false),(92,.bool false,false)],[.cells [(.int .i64 v16.1.a,false),(.int .i64 v16.1.b,false),(.int .i64 v16.1.c,false),(.int .i64 v16.1.d,false)],.cells [(.int .i64 v18.1.num,false),(.int .i64 v18.1.den,false)],.cells [(.bool d121.2.2.1,false),(.bool d121.2.2.2,false)]]⟩):=jfq a0 v10 v16 v18 d43 v45 h119
     rcases qb h with ⟨h122,h⟩ | ⟨h122,h⟩
     ·rcases qb h with ⟨h123,h⟩ | ⟨h123,h⟩
      ·rcases qb h with ⟨h124,h⟩ | ⟨h124,h⟩
       ·rcases qb h with ⟨h125,h⟩ | ⟨h125,h⟩
        ·obtain ⟨hh,hk⟩:=qti h
         have this:jl prZ (X prZ) 7 [.agg [sl 8 qm a0.parts,sl 1 qo a0.choice,sl 5 jg a0.bands],.int .u8 a1] []=some (.bool r,false,hh):=by
          rw [qh (show prZ.fns 7=some c7 from rfl) (by simp)]
          simp only [go_sem,seval,c7,wh2,h3,wh5,h6,wh8,h9,qan h11,wh13,wh15,wh17,wh19,wh44,wh46,wh119,h122,h123,h124,h125]
          rw [hk]
          rfl
         exact ym rfl this (by first | rfl | simp only [go_sem,seval]) (by first | rfl | simp only [go_sem,seval])
        ·obtain ⟨hh,hk⟩:=qti h
         have this:jl prZ (X prZ) 7 [.agg [sl 8 qm a0.parts,sl 1 qo a0.choice,sl 5 jg a0.bands],.int .u8 a1] []=some (.bool r,false,hh):=by
          rw [qh (show prZ.fns 7=some c7 from rfl) (by simp)]
          simp only [go_sem,seval,c7,wh2,h3,wh5,h6,wh8,h9,qan h11,wh13,wh15,wh17,wh19,wh44,wh46,wh119,h122,h123,h124,h125]
          rw [hk]
          rfl
         exact ym rfl this (by first | rfl | simp only [go_sem,seval]) (by first | rfl | simp only [go_sem,seval])
       ·obtain ⟨hh,hk⟩:=qti h
        have this:jl prZ (X prZ) 7 [.agg [sl 8 qm a0.parts,sl 1 qo a0.choice,sl 5 jg a0.bands],.int .u8 a1] []=some (.bool r,false,hh):=by
         rw [qh (show prZ.fns 7=some c7 from rfl) (by simp)]
         simp only [go_sem,seval,c7,wh2,h3,wh5,h6,wh8,h9,qan h11,wh13,wh15,wh17,wh19,wh44,wh46,wh119,h122,h123,h124]
         rw [hk]
         rfl
        exact ym rfl this (by first | rfl | simp only [go_sem,seval]) (by first | rfl | simp only [go_sem,seval])
      ·rcases qb h with ⟨h126,h⟩ | ⟨h126,h⟩
       ·obtain ⟨hh,hk⟩:=qti h
        rw [h126] at h122
        have this:jl prZ (X prZ) 7 [.agg [sl 8 qm a0.parts,sl 1 qo a0.choice,sl 5 jg a0.bands],.int .u8 a1] []=some (.bool r,false,hh):=by
         rw [qh (show prZ.fns 7=some c7 from rfl) (by simp)]
         simp only [go_sem,seval,c7,wh2,h3,wh5,h6,wh8,h9,qan h11,wh13,wh15,wh17,wh19,wh44,wh46,wh119,h122,h123,h126]
         rw [hk]
         rfl
        exact ym rfl this (by first | rfl | simp only [go_sem,seval]) (by first | rfl | simp only [go_sem,seval])
       ·obtain ⟨hh,hk⟩:=qti h
        rw [h126] at h122
        have this:jl prZ (X prZ) 7 [.agg [sl 8 qm a0.parts,sl 1 qo a0.choice,sl 5 jg a0.bands],.int .u8 a1] []=some (.bool r,false,hh):=by
         rw [qh (show prZ.fns 7=some c7 from rfl) (by simp)]
         simp only [go_sem,seval,c7,wh2,h3,wh5,h6,wh8,h9,qan h11,wh13,wh15,wh17,wh19,wh44,wh46,wh119,h122,h123,h126]
         rw [hk]
         rfl
        exact ym rfl this (by first | rfl | simp only [go_sem,seval]) (by first | rfl | simp only [go_sem,seval])
     ·obtain ⟨hh,hk⟩:=qti h
      have this:jl prZ (X prZ) 7 [.agg [sl 8 qm a0.parts,sl 1 qo a0.choice,sl 5 jg a0.bands],.int .u8 a1] []=some (.bool r,false,hh):=by
       rw [qh (show prZ.fns 7=some c7 from rfl) (by simp)]
       simp only [go_sem,seval,c7,wh2,h3,wh5,h6,wh8,h9,qan h11,wh13,wh15,wh17,wh19,wh44,wh46,wh119,h122]
       rw [hk]
       rfl
      exact ym rfl this (by first | rfl | simp only [go_sem,seval]) (by first | rfl | simp only [go_sem,seval])
   ·have hr:v1=r:=Option.some.inj h
    subst hr
    have this:∃ hh,jl prZ (X prZ) 7 [.agg [sl 8 qm a0.parts,sl 1 qo a0.choice,sl 5 jg a0.bands],.int .u8 a1] []=some (.bool v1,false,hh):=by
     rw [qh (show prZ.fns 7=some c7 from rfl) (by simp)]
     simp only [go_sem,seval,c7,wh2,h3,wh5,h6,wh8,h9]
     exact ⟨_,rfl⟩
    obtain ⟨hh,this⟩:=this
    exact ym rfl this (by first | rfl | simp only [go_sem,seval]) (by first | rfl | simp only [go_sem,seval])
  ·have hr:v1=r:=Option.some.inj h
   subst hr
   have this:∃ hh,jl prZ (X prZ) 7 [.agg [sl 8 qm a0.parts,sl 1 qo a0.choice,sl 5 jg a0.bands],.int .u8 a1] []=some (.bool v1,false,hh):=by
    rw [qh (show prZ.fns 7=some c7 from rfl) (by simp)]
    simp only [go_sem,seval,c7,wh2,h3,wh5,h6]
    exact ⟨_,rfl⟩
   obtain ⟨hh,this⟩:=this
   exact ym rfl this (by first | rfl | simp only [go_sem,seval]) (by first | rfl | simp only [go_sem,seval])
 ·have hr:v1=r:=Option.some.inj h
  subst hr
  have this:∃ hh,jl prZ (X prZ) 7 [.agg [sl 8 qm a0.parts,sl 1 qo a0.choice,sl 5 jg a0.bands],.int .u8 a1] []=some (.bool v1,false,hh):=by
   rw [qh (show prZ.fns 7=some c7 from rfl) (by simp)]
   simp only [go_sem,seval,c7,wh2,h3]
   exact ⟨_,rfl⟩
  obtain ⟨hh,this⟩:=this
  exact ym rfl this (by first | rfl | simp only [go_sem,seval]) (by first | rfl | simp only [go_sem,seval])
end Go.Z
