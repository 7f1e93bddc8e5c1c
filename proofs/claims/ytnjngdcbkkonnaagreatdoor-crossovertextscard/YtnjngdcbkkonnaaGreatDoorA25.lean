/- Chapter 4. -/
import Derived.Test.YtnjngdcbkkonnaaGreatDoorA1
import Derived.Test.YtnjngdcbkkonnaaGreatDoorG0
import Derived.Test.YtnjngdcbkkonnaaGreatDoorAbsL
set_option linter.unusedVariables false
set_option linter.unusedSimpArgs false
set_option maxRecDepth 100000
set_option maxHeartbeats 4000000
namespace Go.Z
open Go Go.Abs
noncomputable def qb5 (a0:List UInt8) (s0:Int × Int):Option ((Int × Int) ⊕ (Unit ⊕ (Int × Int))):=
 cond (decide (s0.2 < (a0.length:Int)))
  (qg (jy a0 s0.2) fun v18=>
  cond (decide ((v18.toNat:Int) < 48))
   (some (.inr (.inl ())))
   (cond (decide (57 < (v18.toNat:Int)))
    (some (.inr (.inl ())))
    (some (.inl (qi .i64 ((qi .i64 (10 * s0.1)) + (qi .i64 (qi .u8 ((v18.toNat:Int) - 48)))),qi .i64 (s0.2 + 1))))))
  (some (.inr (.inr (s0.1,s0.2))))
def qfy (a0:List UInt8) (s0:Int × Int):ASt:=⟨[(0,.str a0,false),(4,.int .i64 s0.1,false),(5,.int .i64 s0.2,false)],[]⟩
def qib (a0:List UInt8):Unit ⊕ (Int × Int)→je × ASt
 | .inl d=>(.ret,⟨[(2,.int .i64 0,false),(3,.bool false,false)],[]⟩)
 | .inr d=>(.exit 0,⟨[(0,.str a0,false),(4,.int .i64 d.1,false),(5,.int .i64 d.2,false),(27,.bool false,false)],[]⟩)
theorem q6n (a0:List UInt8) (s0:Int × Int) (r) (h:qb5 a0 s0=some r):zh pr qai (qfy a0) (qib a0) s0 r:=by
 unfold qb5 at h
 rcases qa h with ⟨h17,h⟩ | ⟨h17,h⟩
 ·obtain ⟨v18,h19,h⟩:=qb h
  rcases qa h with ⟨h20,h⟩ | ⟨h20,h⟩
  ·cases h
   exact qk (by simp only [go_sem,seval,qai,qfy,h17,jg h19,h20,qib] <;> rfl)
  ·rcases qa h with ⟨h21,h⟩ | ⟨h21,h⟩
   ·cases h
    exact qk (by simp only [go_sem,seval,qai,qfy,h17,jg h19,h20,h21,qib] <;> rfl)
   ·cases h
    exact qq (st':=⟨[(0,.str a0,false),(4,.int .i64 (qi .i64 ((qi .i64 (10 * s0.1)) + (qi .i64 (qi .u8 ((v18.toNat:Int) - 48))))),false),(5,.int .i64 (qi .i64 (s0.2 + 1)),false)],[]⟩) (by simp only [go_sem,seval,qai,qfy,h17,jg h19,h20,h21] <;> rfl) (qw (Nat.le_refl _))
 ·cases h
  exact qk (by simp only [go_sem,seval,qai,qfy,h17,qib] <;> rfl)
theorem qy8 (a0:List UInt8) {s0:Int × Int} {d} (h:itO (qb5 a0) s0=some d):X pr (.loop qai) (qfy a0 s0)=some (qib a0 d):=zz (q6n a0) (fun d=>by rcases d with d|d <;> (intro hh; cases hh)) h
noncomputable def qiw (a0:List UInt8) (s0:Int × Int):Option ((Int × Int) ⊕ (Unit ⊕ (Int × Int))):=
 cond (decide (s0.2 < (a0.length:Int)))
  (qg (jy a0 s0.2) fun v37=>
  cond (decide ((v37.toNat:Int) < 48))
   (some (.inr (.inl ())))
   (cond (decide (57 < (v37.toNat:Int)))
    (some (.inr (.inl ())))
    (some (.inl (qi .i64 ((qi .i64 (10 * s0.1)) + (qi .i64 (qi .u8 ((v37.toNat:Int) - 48)))),qi .i64 (s0.2 + 1))))))
  (some (.inr (.inr (s0.1,s0.2))))
def qd3 (a0:List UInt8) (s0:Int × Int):ASt:=⟨[(0,.str a0,false),(4,.int .i64 s0.1,false),(5,.int .i64 s0.2,false)],[]⟩
def qgp (a0:List UInt8):Unit ⊕ (Int × Int)→je × ASt
 | .inl d=>(.ret,⟨[(2,.int .i64 0,false),(3,.bool false,false)],[]⟩)
 | .inr d=>(.exit 0,⟨[(0,.str a0,false),(4,.int .i64 d.1,false),(5,.int .i64 d.2,false),(27,.bool false,false)],[]⟩)
theorem q4i (a0:List UInt8) (s0:Int × Int) (r) (h:qiw a0 s0=some r):zh pr qai (qd3 a0) (qgp a0) s0 r:=by
 unfold qiw at h
 rcases qa h with ⟨h36,h⟩ | ⟨h36,h⟩
 ·obtain ⟨v37,h38,h⟩:=qb h
  rcases qa h with ⟨h39,h⟩ | ⟨h39,h⟩
  ·cases h
   exact qk (by simp only [go_sem,seval,qai,qd3,h36,jg h38,h39,qgp] <;> rfl)
  ·rcases qa h with ⟨h40,h⟩ | ⟨h40,h⟩
   ·cases h
    exact qk (by simp only [go_sem,seval,qai,qd3,h36,jg h38,h39,h40,qgp] <;> rfl)
   ·cases h
    exact qq (st':=⟨[(0,.str a0,false),(4,.int .i64 (qi .i64 ((qi .i64 (10 * s0.1)) + (qi .i64 (qi .u8 ((v37.toNat:Int) - 48))))),false),(5,.int .i64 (qi .i64 (s0.2 + 1)),false)],[]⟩) (by simp only [go_sem,seval,qai,qd3,h36,jg h38,h39,h40] <;> rfl) (qw (Nat.le_refl _))
 ·cases h
  exact qk (by simp only [go_sem,seval,qai,qd3,h36,qgp] <;> rfl)
theorem qwb (a0:List UInt8) {s0:Int × Int} {d} (h:itO (qiw a0) s0=some d):X pr (.loop qai) (qd3 a0 s0)=some (qgp a0 d):=zz (q4i a0) (fun d=>by rcases d with d|d <;> (intro hh; cases hh)) h
noncomputable def f154 (a0:List UInt8):Option (Int × Bool):=
 cond (decide ((a0.length:Int)=0))
  (some (0,false))
  (cond (decide (9 < (a0.length:Int)))
   (some (0,false))
   (cond (decide (1 < (a0.length:Int)))
    (qg (jy a0 0) fun v4=>
    cond (decide ((v4.toNat:Int)=48))
     (some (0,false))
     (qg (itO (qb5 a0) (0,0)) fun d22=>match d22 with
      | .inl d24=>
       some (0,false)
      | .inr d25=>
       some (d25.1,true)))
    (qg (itO (qiw a0) (0,0)) fun d41=>match d41 with
     | .inl d43=>
      some (0,false)
     | .inr d44=>
      some (d44.1,true))))
theorem jlp {a0:List UInt8} {r} (h:f154 a0=some r):qd pr (X pr) 154 [.str a0]=some (.tup [.int .i64 r.1,.bool r.2],false):=by
 unfold f154 at h
 rcases qa h with ⟨h1,h⟩ | ⟨h1,h⟩
 ·have hr:(0,false)=r:=Option.some.inj h
  subst hr
  have this:∃ hh,ja pr (X pr) 154 [.str a0] []=some (.tup [.int .i64 0,.bool false],false,hh):=by
   rw [ql (show pr.fns 154=some c154 from rfl) (by simp)]
   simp only [go_sem,seval,c154,h1]
   exact ⟨_,rfl⟩
  obtain ⟨hh,this⟩:=this
  exact jj rfl this (by first | rfl | simp only [go_sem,seval]) (by first | rfl | simp only [go_sem,seval])
 ·rcases qa h with ⟨h2,h⟩ | ⟨h2,h⟩
  ·have hr:(0,false)=r:=Option.some.inj h
   subst hr
   have this:∃ hh,ja pr (X pr) 154 [.str a0] []=some (.tup [.int .i64 0,.bool false],false,hh):=by
    rw [ql (show pr.fns 154=some c154 from rfl) (by simp)]
    simp only [go_sem,seval,c154,h1,h2]
    exact ⟨_,rfl⟩
   obtain ⟨hh,this⟩:=this
   exact jj rfl this (by first | rfl | simp only [go_sem,seval]) (by first | rfl | simp only [go_sem,seval])
  ·rcases qa h with ⟨h3,h⟩ | ⟨h3,h⟩
   ·obtain ⟨v4,h5,h⟩:=qb h
    rcases qa h with ⟨h6,h⟩ | ⟨h6,h⟩
    ·have hr:(0,false)=r:=Option.some.inj h
     subst hr
     have this:∃ hh,ja pr (X pr) 154 [.str a0] []=some (.tup [.int .i64 0,.bool false],false,hh):=by
      rw [ql (show pr.fns 154=some c154 from rfl) (by simp)]
      simp only [go_sem,seval,c154,h1,h2,h3,jg h5,h6]
      exact ⟨_,rfl⟩
     obtain ⟨hh,this⟩:=this
     exact jj rfl this (by first | rfl | simp only [go_sem,seval]) (by first | rfl | simp only [go_sem,seval])
    ·obtain ⟨d22,h23,h⟩:=qb h
     rcases d22 with d24 | d25
     ·have wh23:X pr (.loop qai) ⟨[(0,.str a0,false),(4,.int .i64 0,false),(5,.int .i64 0,false)],[]⟩=some (.ret,⟨[(2,.int .i64 0,false),(3,.bool false,false)],[]⟩):=qy8 a0 h23
      have hr:(0,false)=r:=Option.some.inj h
      subst hr
      have this:∃ hh,ja pr (X pr) 154 [.str a0] []=some (.tup [.int .i64 0,.bool false],false,hh):=by
       rw [ql (show pr.fns 154=some c154 from rfl) (by simp)]
       simp only [go_sem,seval,c154,h1,h2,h3,jg h5,h6,wh23]
       exact ⟨_,rfl⟩
      obtain ⟨hh,this⟩:=this
      exact jj rfl this (by first | rfl | simp only [go_sem,seval]) (by first | rfl | simp only [go_sem,seval])
     ·have wh23:X pr (.loop qai) ⟨[(0,.str a0,false),(4,.int .i64 0,false),(5,.int .i64 0,false)],[]⟩=some (.exit 0,⟨[(0,.str a0,false),(4,.int .i64 d25.1,false),(5,.int .i64 d25.2,false),(27,.bool false,false)],[]⟩):=qy8 a0 h23
      have hr:(d25.1,true)=r:=Option.some.inj h
      subst hr
      have this:∃ hh,ja pr (X pr) 154 [.str a0] []=some (.tup [.int .i64 d25.1,.bool true],false,hh):=by
       rw [ql (show pr.fns 154=some c154 from rfl) (by simp)]
       simp only [go_sem,seval,c154,h1,h2,h3,jg h5,h6,wh23]
       exact ⟨_,rfl⟩
      obtain ⟨hh,this⟩:=this
      exact jj rfl this (by first | rfl | simp only [go_sem,seval]) (by first | rfl | simp only [go_sem,seval])
   ·obtain ⟨d41,h42,h⟩:=qb h
    rcases d41 with d43 | d44
    ·have wh42:X pr (.loop qai) ⟨[(0,.str a0,false),(4,.int .i64 0,false),(5,.int .i64 0,false)],[]⟩=some (.ret,⟨[(2,.int .i64 0,false),(3,.bool false,false)],[]⟩):=qwb a0 h42
     have hr:(0,false)=r:=Option.some.inj h
     subst hr
     have this:∃ hh,ja pr (X pr) 154 [.str a0] []=some (.tup [.int .i64 0,.bool false],false,hh):=by
      rw [ql (show pr.fns 154=some c154 from rfl) (by simp)]
      simp only [go_sem,seval,c154,h1,h2,h3,wh42]
      exact ⟨_,rfl⟩
     obtain ⟨hh,this⟩:=this
     exact jj rfl this (by first | rfl | simp only [go_sem,seval]) (by first | rfl | simp only [go_sem,seval])
    ·have wh42:X pr (.loop qai) ⟨[(0,.str a0,false),(4,.int .i64 0,false),(5,.int .i64 0,false)],[]⟩=some (.exit 0,⟨[(0,.str a0,false),(4,.int .i64 d44.1,false),(5,.int .i64 d44.2,false),(27,.bool false,false)],[]⟩):=qwb a0 h42
     have hr:(d44.1,true)=r:=Option.some.inj h
     subst hr
     have this:∃ hh,ja pr (X pr) 154 [.str a0] []=some (.tup [.int .i64 d44.1,.bool true],false,hh):=by
      rw [ql (show pr.fns 154=some c154 from rfl) (by simp)]
      simp only [go_sem,seval,c154,h1,h2,h3,wh42]
      exact ⟨_,rfl⟩
     obtain ⟨hh,this⟩:=this
     exact jj rfl this (by first | rfl | simp only [go_sem,seval]) (by first | rfl | simp only [go_sem,seval])
noncomputable def qfu (a0:List UInt8) (a1:Int) (s0:(Option (List (List UInt8))) × Int × Int × Bool):Option (((Option (List (List UInt8))) × Int × Int × Bool) ⊕ (((Option (List (List UInt8))) × Bool × Int × Int))):=
 cond (decide (s0.2.2.1 < (a0.length:Int)))
  (qg (jy a0 s0.2.2.1) fun v20=>
  cond (decide ((v20.toNat:Int)=a1))
   (qg (qaz a0 (some s0.2.1) (some s0.2.2.1)) fun v23=>
   cond s0.2.2.2
    (qg (apO s0.1 [v23]) fun v26=>
    some (.inl (v26,qi .i64 (s0.2.2.1 + 1),qi .i64 (s0.2.2.1 + 1),true)))
    (cond s0.1.isNone
     (qg (apO s0.1 [v23]) fun v29=>
     some (.inl (v29,qi .i64 (s0.2.2.1 + 1),qi .i64 (s0.2.2.1 + 1),true)))
     (none)))
   (some (.inl (s0.1,s0.2.1,qi .i64 (s0.2.2.1 + 1),s0.2.2.2))))
  (some (.inr (s0.1,s0.2.2.2,s0.2.1,s0.2.2.1)))
def qia (a0:List UInt8) (a1:Int) (s0:(Option (List (List UInt8))) × Int × Int × Bool):ASt:=⟨[(0,.str a0,false),(1,.int .u8 a1,false),(5,sl 1 j5 s0.1,s0.2.2.2),(6,.int .i64 s0.2.1,false),(7,.int .i64 s0.2.2.1,false)],[]⟩
def qt8 (a0:List UInt8) (a1:Int) (d:((Option (List (List UInt8))) × Bool × Int × Int)):je × ASt:=(.exit 0,⟨[(0,.str a0,false),(1,.int .u8 a1,false),(5,sl 1 j5 d.1,d.2.1),(6,.int .i64 d.2.2.1,false),(7,.int .i64 d.2.2.2,false),(11,.bool false,false)],[]⟩)
theorem jb1 (a0:List UInt8) (a1:Int) (s0:(Option (List (List UInt8))) × Int × Int × Bool) (r) (h:qfu a0 a1 s0=some r):zh pr qg2 (qia a0 a1) (qt8 a0 a1) s0 r:=by
 unfold qfu at h
 rcases qa h with ⟨h19,h⟩ | ⟨h19,h⟩
 ·obtain ⟨v20,h21,h⟩:=qb h
  rcases qa h with ⟨h22,h⟩ | ⟨h22,h⟩
  ·obtain ⟨v23,h24,h⟩:=qb h
   rcases qa h with ⟨h25,h⟩ | ⟨h25,h⟩
   ·obtain ⟨v26,h27,h⟩:=qb h
    cases h
    exact qq (st':=⟨[(0,.str a0,false),(1,.int .u8 a1,false),(5,sl 1 j5 v26,true),(6,.int .i64 (qi .i64 (s0.2.2.1 + 1)),false),(7,.int .i64 (qi .i64 (s0.2.2.1 + 1)),false)],[]⟩) (by simp only [go_sem,seval,qg2,qia,h19,jg h21,h22,qqu h24,h25,qjo h27] <;> rfl) (qw (Nat.le_refl _))
   ·rcases qa h with ⟨h28,h⟩ | ⟨h28,h⟩
    ·obtain ⟨v29,h30,h⟩:=qb h
     cases h
     exact qq (st':=⟨[(0,.str a0,false),(1,.int .u8 a1,false),(5,sl 1 j5 v29,true),(6,.int .i64 (qi .i64 (s0.2.2.1 + 1)),false),(7,.int .i64 (qi .i64 (s0.2.2.1 + 1)),false)],[]⟩) (by simp only [go_sem,seval,qg2,qia,h19,jg h21,h22,qqu h24,h25,h28,qj7 h30 h28] <;> rfl) (qw (Nat.le_refl _))
    ·cases h
  ·cases h
   exact qq (st':=⟨[(0,.str a0,false),(1,.int .u8 a1,false),(5,sl 1 j5 s0.1,s0.2.2.2),(6,.int .i64 s0.2.1,false),(7,.int .i64 (qi .i64 (s0.2.2.1 + 1)),false)],[]⟩) (by simp only [go_sem,seval,qg2,qia,h19,jg h21,h22] <;> rfl) (qw (Nat.le_refl _))
 ·cases h
  exact qk (by simp only [go_sem,seval,qg2,qia,h19,qt8] <;> rfl)
theorem jao (a0:List UInt8) (a1:Int) {s0:(Option (List (List UInt8))) × Int × Int × Bool} {d} (h:itO (qfu a0 a1) s0=some d):X pr (.loop qg2) (qia a0 a1 s0)=some (qt8 a0 a1 d):=zz (jb1 a0 a1) (fun d hh=>by cases hh) h
noncomputable def f96 (a0:List UInt8) (a1:Int):Option (Option (List (List UInt8))):=
 qg (itO (qfu a0 a1) (none,0,0,false)) fun d31=>
 qg (qaz a0 (some d31.2.2.1) none) fun v33=>
 cond d31.2.1
  (qg (apO d31.1 [v33]) fun v36=>
  some v36)
  (cond d31.1.isNone
   (qg (apO d31.1 [v33]) fun v39=>
   some v39)
   (none))
theorem W96 {a0:List UInt8} {a1:Int} {r} (h:f96 a0 a1=some r):qd pr (X pr) 96 [.str a0,.int .u8 a1]=some (sl 1 j5 r,true):=by
 unfold f96 at h
 obtain ⟨d31,h32,h⟩:=qb h
 have wh32:X pr (.loop qg2) ⟨[(0,.str a0,false),(1,.int .u8 a1,false),(5,.list true 0 [],false),(6,.int .i64 0,false),(7,.int .i64 0,false)],[]⟩=some (.exit 0,⟨[(0,.str a0,false),(1,.int .u8 a1,false),(5,sl 1 j5 d31.1,d31.2.1),(6,.int .i64 d31.2.2.1,false),(7,.int .i64 d31.2.2.2,false),(11,.bool false,false)],[]⟩):=jao a0 a1 h32
 obtain ⟨v33,h34,h⟩:=qb h
 rcases qa h with ⟨h35,h⟩ | ⟨h35,h⟩
 ·obtain ⟨v36,h37,h⟩:=qb h
  have hr:v36=r:=Option.some.inj h
  subst hr
  have this:∃ hh,ja pr (X pr) 96 [.str a0,.int .u8 a1] []=some (sl 1 j5 v36,true,hh):=by
   rw [ql (show pr.fns 96=some c96 from rfl) (by simp)]
   simp only [go_sem,seval,c96,wh32,qj6 h34,h35,qjo h37]
   exact ⟨_,rfl⟩
  obtain ⟨hh,this⟩:=this
  exact zx rfl this (by first | rfl | simp only [go_sem,seval]) (by first | rfl | simp only [go_sem,seval]) (by first | rfl | simp only [go_sem,seval])
 ·rcases qa h with ⟨h38,h⟩ | ⟨h38,h⟩
  ·obtain ⟨v39,h40,h⟩:=qb h
   have hr:v39=r:=Option.some.inj h
   subst hr
   have this:∃ hh,ja pr (X pr) 96 [.str a0,.int .u8 a1] []=some (sl 1 j5 v39,true,hh):=by
    rw [ql (show pr.fns 96=some c96 from rfl) (by simp)]
    simp only [go_sem,seval,c96,wh32,qj6 h34,h35,h38,qj7 h40 h38]
    exact ⟨_,rfl⟩
   obtain ⟨hh,this⟩:=this
   exact zx rfl this (by first | rfl | simp only [go_sem,seval]) (by first | rfl | simp only [go_sem,seval]) (by first | rfl | simp only [go_sem,seval])
  ·cases h
noncomputable def qcw (a0:List UInt8) (s0:Int × Nat):Option ((Int × Nat) ⊕ (Nat ⊕ (Int × Nat))):=
 cond (decide (s0.2 < a0.length))
  (cond (decide (((qe a0 s0.2).1:Int) < 48))
   (some (.inr (.inl (s0.2 + (qe a0 s0.2).2))))
   (cond (decide (57 < ((qe a0 s0.2).1:Int)))
    (some (.inr (.inl (s0.2 + (qe a0 s0.2).2))))
    (cond (decide (9 < (a0.length:Int)))
     (some (.inr (.inl (s0.2 + (qe a0 s0.2).2))))
     (some (.inl (qi .i64 ((qi .i64 (10 * s0.1)) + (qi .i64 (qi .i32 (((qe a0 s0.2).1:Int) - 48)))),s0.2 + (qe a0 s0.2).2))))))
  (some (.inr (.inr (s0.1,s0.2))))
def qd5 (a0:List UInt8) (s0:Int × Nat):ASt:=⟨[(0,.str a0,false),(4,.int .i64 s0.1,false),(8,.ptr 0 0,false)],[.iter a0 s0.2]⟩
def qf1 (a0:List UInt8):Nat ⊕ (Int × Nat)→je × ASt
 | .inl d=>(.ret,⟨[(2,.int .i64 0,false),(3,.bool false,false)],[.iter a0 d]⟩)
 | .inr d=>(.exit 0,⟨[(0,.str a0,false),(4,.int .i64 d.1,false),(8,.ptr 0 0,false),(9,.tup [.bool false],false),(10,.bool false,false)],[.iter a0 d.2]⟩)
theorem q7e (a0:List UInt8) (s0:Int × Nat) (r) (h:qcw a0 s0=some r):zh pr qcu (qd5 a0) (qf1 a0) s0 r:=by
 unfold qcw at h
 rcases qa h with ⟨h9,h⟩ | ⟨h9,h⟩
 ·rcases qa h with ⟨h10,h⟩ | ⟨h10,h⟩
  ·cases h
   exact qk (by simp only [go_sem,seval,qcu,qd5,h9,jl h9,h10,qf1] <;> rfl)
  ·rcases qa h with ⟨h11,h⟩ | ⟨h11,h⟩
   ·cases h
    exact qk (by simp only [go_sem,seval,qcu,qd5,h9,jl h9,h10,h11,qf1] <;> rfl)
   ·rcases qa h with ⟨h12,h⟩ | ⟨h12,h⟩
    ·cases h
     exact qk (by simp only [go_sem,seval,qcu,qd5,h9,jl h9,h10,h11,h12,qf1] <;> rfl)
    ·cases h
     exact qq (st':=⟨[(0,.str a0,false),(4,.int .i64 (qi .i64 ((qi .i64 (10 * s0.1)) + (qi .i64 (qi .i32 (((qe a0 s0.2).1:Int) - 48))))),false),(8,.ptr 0 0,false)],[.iter a0 (s0.2 + (qe a0 s0.2).2)]⟩) (by simp only [go_sem,seval,qcu,qd5,h9,jl h9,h10,h11,h12] <;> rfl) (qw (Nat.le_refl _))
 ·cases h
  exact qk (by simp only [go_sem,seval,qcu,qd5,h9,qtz h9,qf1] <;> rfl)
theorem qyy (a0:List UInt8) {s0:Int × Nat} {d} (h:itO (qcw a0) s0=some d):X pr (.loop qcu) (qd5 a0 s0)=some (qf1 a0 d):=zz (q7e a0) (fun d=>by rcases d with d|d <;> (intro hh; cases hh)) h
noncomputable def f217 (a0:List UInt8):Option (Int × Bool):=
 qg (itO (qcw a0) (0,0)) fun d13=>match d13 with
  | .inl d15=>
   some (0,false)
  | .inr d16=>
   cond (decide (a0=[]))
    (some (d16.1,false))
    (cond (decide ((a0.length:Int)=1))
     (some (d16.1,true))
     (qg (jy a0 0) fun v19=>
     some (d16.1,!decide ((v19.toNat:Int)=48))))
theorem jir {a0:List UInt8} {r} (h:f217 a0=some r):qd pr (X pr) 217 [.str a0]=some (.tup [.int .i64 r.1,.bool r.2],false):=by
 unfold f217 at h
 obtain ⟨d13,h14,h⟩:=qb h
 rcases d13 with d15 | d16
 ·have wh14:X pr (.loop qcu) ⟨[(0,.str a0,false),(4,.int .i64 0,false),(8,.ptr 0 0,false)],[.iter a0 0]⟩=some (.ret,⟨[(2,.int .i64 0,false),(3,.bool false,false)],[.iter a0 d15]⟩):=qyy a0 h14
  have hr:(0,false)=r:=Option.some.inj h
  subst hr
  have this:∃ hh,ja pr (X pr) 217 [.str a0] []=some (.tup [.int .i64 0,.bool false],false,hh):=by
   rw [ql (show pr.fns 217=some c217 from rfl) (by simp)]
   simp only [go_sem,seval,c217,wh14]
   exact ⟨_,rfl⟩
  obtain ⟨hh,this⟩:=this
  exact jj rfl this (by first | rfl | simp only [go_sem,seval]) (by first | rfl | simp only [go_sem,seval])
 ·have wh14:X pr (.loop qcu) ⟨[(0,.str a0,false),(4,.int .i64 0,false),(8,.ptr 0 0,false)],[.iter a0 0]⟩=some (.exit 0,⟨[(0,.str a0,false),(4,.int .i64 d16.1,false),(8,.ptr 0 0,false),(9,.tup [.bool false],false),(10,.bool false,false)],[.iter a0 d16.2]⟩):=qyy a0 h14
  rcases qa h with ⟨h17,h⟩ | ⟨h17,h⟩
  ·have hr:(d16.1,false)=r:=Option.some.inj h
   subst hr
   have this:∃ hh,ja pr (X pr) 217 [.str a0] []=some (.tup [.int .i64 d16.1,.bool false],false,hh):=by
    rw [ql (show pr.fns 217=some c217 from rfl) (by simp)]
    simp only [go_sem,seval,c217,wh14,h17]
    exact ⟨_,rfl⟩
   obtain ⟨hh,this⟩:=this
   exact jj rfl this (by first | rfl | simp only [go_sem,seval]) (by first | rfl | simp only [go_sem,seval])
  ·rcases qa h with ⟨h18,h⟩ | ⟨h18,h⟩
   ·have hr:(d16.1,true)=r:=Option.some.inj h
    subst hr
    have this:∃ hh,ja pr (X pr) 217 [.str a0] []=some (.tup [.int .i64 d16.1,.bool true],false,hh):=by
     rw [ql (show pr.fns 217=some c217 from rfl) (by simp)]
     simp only [go_sem,seval,c217,wh14,h17,h18]
     exact ⟨_,rfl⟩
    obtain ⟨hh,this⟩:=this
    exact jj rfl this (by first | rfl | simp only [go_sem,seval]) (by first | rfl | simp only [go_sem,seval])
   ·obtain ⟨v19,h20,h⟩:=qb h
    have hr:(d16.1,!decide ((v19.toNat:Int)=48))=r:=Option.some.inj h
    subst hr
    have this:∃ hh,ja pr (X pr) 217 [.str a0] []=some (.tup [.int .i64 d16.1,.bool (!decide ((v19.toNat:Int)=48))],false,hh):=by
     rw [ql (show pr.fns 217=some c217 from rfl) (by simp)]
     simp only [go_sem,seval,c217,wh14,h17,h18,jg h20]
     exact ⟨_,rfl⟩
    obtain ⟨hh,this⟩:=this
    exact jj rfl this (by first | rfl | simp only [go_sem,seval]) (by first | rfl | simp only [go_sem,seval])
noncomputable def qez (s0:Int × (List UInt8)):Option ((Int × (List UInt8)) ⊕ ((Int × (List UInt8)))):=
 cond (decide (0 < s0.1))
  (qg (qlo s0.1 10) fun v25=>
  qg (kx ((Utf8.encode (qi .i32 (qi .i64 (48 + v25)))).data.toList) s0.2) fun v27=>
  qg (qkp .i64 s0.1 10) fun v29=>
  some (.inl (v29,v27)))
  (some (.inr (s0.1,s0.2)))
def qmh (s0:Int × (List UInt8)):ASt:=⟨[(0,.int .i64 s0.1,false),(3,.str s0.2,false)],[]⟩
def qpj (d:(Int × (List UInt8))):je × ASt:=(.exit 0,⟨[(0,.int .i64 d.1,false),(3,.str d.2,false),(18,.bool false,false)],[]⟩)
theorem q7s (s0:Int × (List UInt8)) (r) (h:qez s0=some r):zh pr qi1 (qmh) (qpj) s0 r:=by
 unfold qez at h
 rcases qa h with ⟨h24,h⟩ | ⟨h24,h⟩
 ·obtain ⟨v25,h26,h⟩:=qb h
  obtain ⟨v27,h28,h⟩:=qb h
  obtain ⟨v29,h30,h⟩:=qb h
  cases h
  exact qq (st':=⟨[(0,.int .i64 v29,false),(3,.str v27,false)],[]⟩) (by simp only [go_sem,seval,qi1,qmh,h24,qvp h26,qco h28,qv6 h30] <;> rfl) (qw (Nat.le_refl _))
 ·cases h
  exact qk (by simp only [go_sem,seval,qi1,qmh,h24,qpj] <;> rfl)
theorem q8e {s0:Int × (List UInt8)} {d} (h:itO (qez) s0=some d):X pr (.loop qi1) (qmh s0)=some (qpj d):=zz (q7s) (fun d hh=>by cases hh) h
noncomputable def qsp (rec:Int→Option (List UInt8)) (a0:Int):Option (List UInt8):=
 cond (decide (a0 < 0))
  (qg (rec (qi .i64 (0 - a0))) fun v2=>
  qg (kx ([45]:List UInt8) v2) fun v4=>
  some v4)
  (qg (qlo a0 10) fun v6=>
  qg (qkp .i64 a0 10) fun v8=>
  qg (itO (qez) (v8,(Utf8.encode (qi .i32 (qi .i64 (48 + v6)))).data.toList)) fun d31=>
  some d31.2)
theorem jcj {rec:Int→Option (List UInt8)} (hrec:∀ {a0:Int} {r},rec a0=some r→qd pr (X pr) 153 [.int .i64 a0]=some (.str r,false)) {a0:Int} {r} (h:qsp rec a0=some r):qd pr (X pr) 153 [.int .i64 a0]=some (.str r,false):=by
 unfold qsp at h
 rcases qa h with ⟨h1,h⟩ | ⟨h1,h⟩
 ·obtain ⟨v2,h3,h⟩:=qb h
  have wh3:qd pr (X pr) 153 [.int .i64 (qi .i64 (0 - a0))]=some (.str v2,false):=hrec h3
  obtain ⟨v4,h5,h⟩:=qb h
  have hr:v4=r:=Option.some.inj h
  subst hr
  have this:∃ hh,ja pr (X pr) 153 [.int .i64 a0] []=some (.str v4,false,hh):=by
   rw [ql (show pr.fns 153=some c153 from rfl) (by simp)]
   simp only [go_sem,seval,c153,h1,wh3,qco h5]
   exact ⟨_,rfl⟩
  obtain ⟨hh,this⟩:=this
  exact jj rfl this (by first | rfl | simp only [go_sem,seval]) (by first | rfl | simp only [go_sem,seval])
 ·obtain ⟨v6,h7,h⟩:=qb h
  obtain ⟨v8,h9,h⟩:=qb h
  obtain ⟨d31,h32,h⟩:=qb h
  have wh32:X pr (.loop qi1) ⟨[(0,.int .i64 v8,false),(3,.str ((Utf8.encode (qi .i32 (qi .i64 (48 + v6)))).data.toList),false)],[]⟩=some (.exit 0,⟨[(0,.int .i64 d31.1,false),(3,.str d31.2,false),(18,.bool false,false)],[]⟩):=q8e h32
  have hr:d31.2=r:=Option.some.inj h
  subst hr
  have this:∃ hh,ja pr (X pr) 153 [.int .i64 a0] []=some (.str d31.2,false,hh):=by
   rw [ql (show pr.fns 153=some c153 from rfl) (by simp)]
   simp only [go_sem,seval,c153,h1,qvp h7,qv6 h9,wh32]
   exact ⟨_,rfl⟩
  obtain ⟨hh,this⟩:=this
  exact jj rfl this (by first | rfl | simp only [go_sem,seval]) (by first | rfl | simp only [go_sem,seval])
noncomputable def f153:Nat→Int→Option (List UInt8)
 | 0=>fun _=>none
 | n + 1=>qsp (f153 n)
theorem q8c:∀ (n:Nat) {a0:Int} {r} (h:f153 n a0=some r),qd pr (X pr) 153 [.int .i64 a0]=some (.str r,false)
 | 0,_,_,h=>by cases h
 | n + 1,_,_,h=>jcj (q8c n) h
noncomputable def qje (a0:Option (List qf)) (s0:(Option (List qf)) × Int × Bool):Option (((Option (List qf)) × Int × Bool) ⊕ (((Option (List qf)) × Bool × Int))):=
 cond (decide (s0.2.1 < ((a0.getD []).length:Int)))
  (qg (jy (a0.getD []) s0.2.1) fun v14=>
  cond s0.2.2
   (qg (apO s0.1 [v14]) fun v17=>
   some (.inl (v17,qi .i64 (s0.2.1 + 1),true)))
   (cond s0.1.isNone
    (qg (apO s0.1 [v14]) fun v20=>
    some (.inl (v20,qi .i64 (s0.2.1 + 1),true)))
    (none)))
  (some (.inr (s0.1,s0.2.2,s0.2.1)))
def qdk (a0:Option (List qf)) (s0:(Option (List qf)) × Int × Bool):ASt:=⟨[(3,sl 8 qn s0.1,s0.2.2),(6,sl 8 qn a0,false),(7,.int .i64 ((a0.getD []).length:Int),false),(8,.int .i64 s0.2.1,false)],[]⟩
def qtr (a0:Option (List qf)) (d:((Option (List qf)) × Bool × Int)):je × ASt:=(.exit 0,⟨[(3,sl 8 qn d.1,d.2.1),(6,sl 8 qn a0,false),(7,.int .i64 ((a0.getD []).length:Int),false),(8,.int .i64 d.2.2,false),(9,.bool false,false)],[]⟩)
theorem jdz (a0:Option (List qf)) (s0:(Option (List qf)) × Int × Bool) (r) (h:qje a0 s0=some r):zh pr qjw (qdk a0) (qtr a0) s0 r:=by
 unfold qje at h
 rcases qa h with ⟨h13,h⟩ | ⟨h13,h⟩
 ·obtain ⟨v14,h15,h⟩:=qb h
  rcases qa h with ⟨h16,h⟩ | ⟨h16,h⟩
  ·obtain ⟨v17,h18,h⟩:=qb h
   cases h
   exact qq (st':=⟨[(3,sl 8 qn v17,true),(6,sl 8 qn a0,false),(7,.int .i64 ((a0.getD []).length:Int),false),(8,.int .i64 (qi .i64 (s0.2.1 + 1)),false)],[]++[.cells [(.str v14.name,false),(.str v14.kd,false),(.int .i64 v14.pa,false),(.int .i64 v14.pb,false),(.int .i64 v14.sa,false),(.int .i64 v14.sb,false),(.int .i64 v14.cost,false),(.int .i64 v14.stock,false)]]⟩) (by simp only [go_sem,seval,qjw,qdk,h13,q9 h15,h16,qee h18] <;> rfl) (kn rfl rfl (by first | simp only [go_sem,seval,qdk] | rfl) (by first | simp only [go_sem,seval,qdk] | rfl))
  ·rcases qa h with ⟨h19,h⟩ | ⟨h19,h⟩
   ·obtain ⟨v20,h21,h⟩:=qb h
    cases h
    exact qq (st':=⟨[(3,sl 8 qn v20,true),(6,sl 8 qn a0,false),(7,.int .i64 ((a0.getD []).length:Int),false),(8,.int .i64 (qi .i64 (s0.2.1 + 1)),false)],[]++[.cells [(.str v14.name,false),(.str v14.kd,false),(.int .i64 v14.pa,false),(.int .i64 v14.pb,false),(.int .i64 v14.sa,false),(.int .i64 v14.sb,false),(.int .i64 v14.cost,false),(.int .i64 v14.stock,false)]]⟩) (by simp only [go_sem,seval,qjw,qdk,h13,q9 h15,h16,h19,qei h21 h19] <;> rfl) (kn rfl rfl (by first | simp only [go_sem,seval,qdk] | rfl) (by first | simp only [go_sem,seval,qdk] | rfl))
   ·cases h
 ·cases h
  exact qk (by simp only [go_sem,seval,qjw,qdk,h13,qtr] <;> rfl)
theorem jb4 (a0:Option (List qf)) {s0:(Option (List qf)) × Int × Bool} {d} (h:itO (qje a0) s0=some d):X pr (.loop qjw) (qdk a0 s0)=some (qtr a0 d):=zz (jdz a0) (fun d hh=>by cases hh) h
noncomputable def f75 (a0:Option (List qf)):Option ((Option (List qf)) × Bool):=
 qg (itO (qje a0) (none,0,false)) fun d22=>
 some (d22.1,d22.2.1)
theorem W75 {a0:Option (List qf)} {r} (h:f75 a0=some r):qd pr (X pr) 75 [sl 8 qn a0]=some (sl 8 qn r.1,r.2):=by
 unfold f75 at h
 obtain ⟨d22,h23,h⟩:=qb h
 have wh23:X pr (.loop qjw) ⟨[(3,.list true 0 [],false),(6,sl 8 qn a0,false),(7,.int .i64 ((a0.getD []).length:Int),false),(8,.int .i64 0,false)],[]⟩=some (.exit 0,⟨[(3,sl 8 qn d22.1,d22.2.1),(6,sl 8 qn a0,false),(7,.int .i64 ((a0.getD []).length:Int),false),(8,.int .i64 d22.2.2,false),(9,.bool false,false)],[]⟩):=jb4 a0 h23
 have hr:(d22.1,d22.2.1)=r:=Option.some.inj h
 subst hr
 have this:∃ hh,ja pr (X pr) 75 [sl 8 qn a0] []=some (sl 8 qn d22.1,d22.2.1,hh):=by
  rw [ql (show pr.fns 75=some c75 from rfl) (by simp)]
  simp only [go_sem,seval,c75,wh23]
  exact ⟨_,rfl⟩
 obtain ⟨hh,this⟩:=this
 exact zx rfl this (by first | rfl | simp only [go_sem,seval]) (by first | rfl | simp only [go_sem,seval]) (by first | rfl | simp only [go_sem,seval])
noncomputable def qjv (a0:Option (List qf)) (a1:Option (List qf)) (s0:Int):Option (Int ⊕ (Unit ⊕ Int)):=
 cond (decide (s0 < ((a0.getD []).length:Int)))
  (qg (jy (a0.getD []) s0) fun v15=>
  qg (jy (a1.getD []) s0) fun v17=>
  cond (decide (v15.name=v17.name) && decide (v15.kd=v17.kd) && decide (v15.pa=v17.pa) && decide (v15.pb=v17.pb) && decide (v15.sa=v17.sa) && decide (v15.sb=v17.sb) && decide (v15.cost=v17.cost) && decide (v15.stock=v17.stock))
   (some (.inl (qi .i64 (s0 + 1))))
   (some (.inr (.inl ()))))
  (some (.inr (.inr s0)))
def qkv (a0:Option (List qf)) (a1:Option (List qf)) (s0:Int):ASt:=⟨[(0,sl 8 qn a0,false),(1,sl 8 qn a1,false),(5,.int .i64 s0,false)],[]⟩
def qnx (a0:Option (List qf)) (a1:Option (List qf)):Unit ⊕ Int→je × ASt
 | .inl d=>(.ret,⟨[(4,.bool false,false)],[]⟩)
 | .inr d=>(.exit 0,⟨[(0,sl 8 qn a0,false),(1,sl 8 qn a1,false),(5,.int .i64 d,false),(14,.bool false,false)],[]⟩)
theorem jcp (a0:Option (List qf)) (a1:Option (List qf)) (s0:Int) (r) (h:qjv a0 a1 s0=some r):zh pr qgy (qkv a0 a1) (qnx a0 a1) s0 r:=by
 unfold qjv at h
 rcases qa h with ⟨h14,h⟩ | ⟨h14,h⟩
 ·obtain ⟨v15,h16,h⟩:=qb h
  obtain ⟨v17,h18,h⟩:=qb h
  rcases qa h with ⟨h19,h⟩ | ⟨h19,h⟩
  ·cases h
   exact qq (st':=⟨[(0,sl 8 qn a0,false),(1,sl 8 qn a1,false),(5,.int .i64 (qi .i64 (s0 + 1)),false)],[]⟩) (by simp only [go_sem,seval,qgy,qkv,h14,q9 h16,q9 h18,h19] <;> rfl) (qw (Nat.le_refl _))
  ·cases h
   exact qk (by simp only [go_sem,seval,qgy,qkv,h14,q9 h16,q9 h18,h19,qnx] <;> rfl)
 ·cases h
  exact qk (by simp only [go_sem,seval,qgy,qkv,h14,qnx] <;> rfl)
theorem q3c (a0:Option (List qf)) (a1:Option (List qf)) {s0:Int} {d} (h:itO (qjv a0 a1) s0=some d):X pr (.loop qgy) (qkv a0 a1 s0)=some (qnx a0 a1 d):=zz (jcp a0 a1) (fun d=>by rcases d with d|d <;> (intro hh; cases hh)) h
noncomputable def f74 (a0:Option (List qf)) (a1:Option (List qf)):Option Bool:=
 cond (decide (((a0.getD []).length:Int)=((a1.getD []).length:Int)))
  (qg (itO (qjv a0 a1) 0) fun d20=>match d20 with
   | .inl d22=>
    some false
   | .inr d23=>
    some true)
  (some false)
theorem W74 {a0:Option (List qf)} {a1:Option (List qf)} {r} (h:f74 a0 a1=some r):qd pr (X pr) 74 [sl 8 qn a0,sl 8 qn a1]=some (.bool r,false):=by
 unfold f74 at h
 rcases qa h with ⟨h1,h⟩ | ⟨h1,h⟩
 ·obtain ⟨d20,h21,h⟩:=qb h
  rcases d20 with d22 | d23
  ·have wh21:X pr (.loop qgy) ⟨[(0,sl 8 qn a0,false),(1,sl 8 qn a1,false),(5,.int .i64 0,false)],[]⟩=some (.ret,⟨[(4,.bool false,false)],[]⟩):=q3c a0 a1 h21
   have hr:false=r:=Option.some.inj h
   subst hr
   have this:∃ hh,ja pr (X pr) 74 [sl 8 qn a0,sl 8 qn a1] []=some (.bool false,false,hh):=by
    rw [ql (show pr.fns 74=some c74 from rfl) (by simp)]
    simp only [go_sem,seval,c74,h1,wh21]
    exact ⟨_,rfl⟩
   obtain ⟨hh,this⟩:=this
   exact jj rfl this (by first | rfl | simp only [go_sem,seval]) (by first | rfl | simp only [go_sem,seval])
  ·have wh21:X pr (.loop qgy) ⟨[(0,sl 8 qn a0,false),(1,sl 8 qn a1,false),(5,.int .i64 0,false)],[]⟩=some (.exit 0,⟨[(0,sl 8 qn a0,false),(1,sl 8 qn a1,false),(5,.int .i64 d23,false),(14,.bool false,false)],[]⟩):=q3c a0 a1 h21
   have hr:true=r:=Option.some.inj h
   subst hr
   have this:∃ hh,ja pr (X pr) 74 [sl 8 qn a0,sl 8 qn a1] []=some (.bool true,false,hh):=by
    rw [ql (show pr.fns 74=some c74 from rfl) (by simp)]
    simp only [go_sem,seval,c74,h1,wh21]
    exact ⟨_,rfl⟩
   obtain ⟨hh,this⟩:=this
   exact jj rfl this (by first | rfl | simp only [go_sem,seval]) (by first | rfl | simp only [go_sem,seval])
 ·have hr:false=r:=Option.some.inj h
  subst hr
  have this:∃ hh,ja pr (X pr) 74 [sl 8 qn a0,sl 8 qn a1] []=some (.bool false,false,hh):=by
   rw [ql (show pr.fns 74=some c74 from rfl) (by simp)]
   simp only [go_sem,seval,c74,h1]
   exact ⟨_,rfl⟩
  obtain ⟨hh,this⟩:=this
  exact jj rfl this (by first | rfl | simp only [go_sem,seval]) (by first | rfl | simp only [go_sem,seval])
noncomputable def qg0 (a0:Option (List qf)) (s0:(List UInt8) × Int) (v78:qf) (s1:(List UInt8) × Int):Option (((List UInt8) × Int) ⊕ (((List UInt8) × Int))):=
 cond (decide (s1.2 < (6:Int)))
  (qg (kx s1.1 ([32]:List UInt8)) fun v103=>
  qg (jy [v78.pa,v78.pb,v78.sa,v78.sb,v78.cost,v78.stock] s1.2) fun v105=>
  qg (f153 1 v105) fun v107=>
  qg (kx v103 v107) fun v109=>
  some (.inl (v109,qi .i64 (s1.2 + 1))))
  (some (.inr (s1.1,s1.2)))
def qog (a0:Option (List qf)) (s0:(List UInt8) × Int) (v78:qf) (s1:(List UInt8) × Int):ASt:=⟨[(0,sl 8 qn a0,false),(3,.str s1.1,false),(4,.int .i64 s0.2,false),(6,.list false 1 [.int .i64 v78.pa,.int .i64 v78.pb,.int .i64 v78.sa,.int .i64 v78.sb,.int .i64 v78.cost,.int .i64 v78.stock],true),(7,.int .i64 s1.2,false)],[.cells [(.str v78.name,false),(.str v78.kd,false),(.int .i64 v78.pa,false),(.int .i64 v78.pb,false),(.int .i64 v78.sa,false),(.int .i64 v78.sb,false),(.int .i64 v78.cost,false),(.int .i64 v78.stock,false)]]⟩
def qr4 (a0:Option (List qf)) (s0:(List UInt8) × Int) (v78:qf) (d:((List UInt8) × Int)):je × ASt:=(.exit 2,⟨[(0,sl 8 qn a0,false),(3,.str d.1,false),(4,.int .i64 s0.2,false),(6,.list false 1 [.int .i64 v78.pa,.int .i64 v78.pb,.int .i64 v78.sa,.int .i64 v78.sb,.int .i64 v78.cost,.int .i64 v78.stock],true),(7,.int .i64 d.2,false),(45,.bool false,false)],[.cells [(.str v78.name,false),(.str v78.kd,false),(.int .i64 v78.pa,false),(.int .i64 v78.pb,false),(.int .i64 v78.sa,false),(.int .i64 v78.sb,false),(.int .i64 v78.cost,false),(.int .i64 v78.stock,false)]]⟩)
theorem jdk (a0:Option (List qf)) (s0:(List UInt8) × Int) (v78:qf) (s1:(List UInt8) × Int) (r) (h:qg0 a0 s0 v78 s1=some r):zh pr qmc (qog a0 s0 v78) (qr4 a0 s0 v78) s1 r:=by
 unfold qg0 at h
 rcases qa h with ⟨h102,h⟩ | ⟨h102,h⟩
 ·obtain ⟨v103,h104,h⟩:=qb h
  obtain ⟨v105,h106,h⟩:=qb h
  obtain ⟨v107,h108,h⟩:=qb h
  have wh108:qd pr (X pr) 153 [.int .i64 v105]=some (.str v107,false):=q8c 1 h108
  obtain ⟨v109,h110,h⟩:=qb h
  cases h
  exact qq (st':=⟨[(0,sl 8 qn a0,false),(3,.str v109,false),(4,.int .i64 s0.2,false),(6,.list false 1 [.int .i64 v78.pa,.int .i64 v78.pb,.int .i64 v78.sa,.int .i64 v78.sb,.int .i64 v78.cost,.int .i64 v78.stock],true),(7,.int .i64 (qi .i64 (s1.2 + 1)),false)],[.cells [(.str v78.name,false),(.str v78.kd,false),(.int .i64 v78.pa,false),(.int .i64 v78.pb,false),(.int .i64 v78.sa,false),(.int .i64 v78.sb,false),(.int .i64 v78.cost,false),(.int .i64 v78.stock,false)]]⟩) (by simp only [go_sem,seval,qmc,qog,h102,qco h104,(show ∀ hp,qkl 1 hp (some (.list false 1 [.int .i64 v78.pa,.int .i64 v78.pb,.int .i64 v78.sa,.int .i64 v78.sb,.int .i64 v78.cost,.int .i64 v78.stock])) (some (.int .i64 s1.2))=some ⟨.vptr (.int .i64 v105),false,none,hp⟩ from fun hp=>q9 (l:=some [v78.pa,v78.pb,v78.sa,v78.sb,v78.cost,v78.stock]) h106),wh108,qco h110] <;> rfl) (qw (Nat.le_refl _))
 ·cases h
  exact qk (by simp only [go_sem,seval,qmc,qog,h102,qr4] <;> rfl)
theorem jd2 (a0:Option (List qf)) (s0:(List UInt8) × Int) (v78:qf) {s1:(List UInt8) × Int} {d} (h:itO (qg0 a0 s0 v78) s1=some d):X pr (.loop qmc) (qog a0 s0 v78 s1)=some (qr4 a0 s0 v78 d):=zz (jdk a0 s0 v78) (fun d hh=>by cases hh) h
noncomputable def qg1 (a0:Option (List qf)) (s0:(List UInt8) × Int):Option (((List UInt8) × Int) ⊕ (((List UInt8) × Int))):=
 cond (decide (s0.2 < ((a0.getD []).length:Int)))
  (qg (jy (a0.getD []) s0.2) fun v78=>
  qg (kx s0.1 v78.name) fun v80=>
  qg (kx v80 ([32]:List UInt8)) fun v82=>
  qg (kx v82 v78.kd) fun v84=>
  qg (itO (qg0 a0 s0 v78) (v84,0)) fun d111=>
  qg (kx d111.1 ([10]:List UInt8)) fun v113=>
  some (.inl (v113,qi .i64 (s0.2 + 1))))
  (some (.inr (s0.1,s0.2)))
def qid (a0:Option (List qf)) (s0:(List UInt8) × Int):ASt:=⟨[(0,sl 8 qn a0,false),(3,.str s0.1,false),(4,.int .i64 s0.2,false)],[]⟩
def qub (a0:Option (List qf)) (d:((List UInt8) × Int)):je × ASt:=(.exit 0,⟨[(0,sl 8 qn a0,false),(3,.str d.1,false),(4,.int .i64 d.2,false),(11,.bool false,false)],[]⟩)
theorem je8 (a0:Option (List qf)) (s0:(List UInt8) × Int) (r) (h:qg1 a0 s0=some r):zh pr qme (qid a0) (qub a0) s0 r:=by
 unfold qg1 at h
 rcases qa h with ⟨h77,h⟩ | ⟨h77,h⟩
 ·obtain ⟨v78,h79,h⟩:=qb h
  obtain ⟨v80,h81,h⟩:=qb h
  obtain ⟨v82,h83,h⟩:=qb h
  obtain ⟨v84,h85,h⟩:=qb h
  obtain ⟨d111,h112,h⟩:=qb h
  have wh112:X pr (.loop qmc) ⟨[(0,sl 8 qn a0,false),(3,.str v84,false),(4,.int .i64 s0.2,false),(6,.list false 1 [.int .i64 v78.pa,.int .i64 v78.pb,.int .i64 v78.sa,.int .i64 v78.sb,.int .i64 v78.cost,.int .i64 v78.stock],true),(7,.int .i64 0,false)],[.cells [(.str v78.name,false),(.str v78.kd,false),(.int .i64 v78.pa,false),(.int .i64 v78.pb,false),(.int .i64 v78.sa,false),(.int .i64 v78.sb,false),(.int .i64 v78.cost,false),(.int .i64 v78.stock,false)]]⟩=some (.exit 2,⟨[(0,sl 8 qn a0,false),(3,.str d111.1,false),(4,.int .i64 s0.2,false),(6,.list false 1 [.int .i64 v78.pa,.int .i64 v78.pb,.int .i64 v78.sa,.int .i64 v78.sb,.int .i64 v78.cost,.int .i64 v78.stock],true),(7,.int .i64 d111.2,false),(45,.bool false,false)],[.cells [(.str v78.name,false),(.str v78.kd,false),(.int .i64 v78.pa,false),(.int .i64 v78.pb,false),(.int .i64 v78.sa,false),(.int .i64 v78.sb,false),(.int .i64 v78.cost,false),(.int .i64 v78.stock,false)]]⟩):=jd2 a0 s0 v78 h112
  obtain ⟨v113,h114,h⟩:=qb h
  cases h
  exact qq (st':=⟨[(0,sl 8 qn a0,false),(3,.str v113,false),(4,.int .i64 (qi .i64 (s0.2 + 1)),false)],[]++[.cells [(.str v78.name,false),(.str v78.kd,false),(.int .i64 v78.pa,false),(.int .i64 v78.pb,false),(.int .i64 v78.sa,false),(.int .i64 v78.sb,false),(.int .i64 v78.cost,false),(.int .i64 v78.stock,false)]]⟩) (by simp only [go_sem,seval,qme,qid,h77,q9 h79,qco h81,qco h83,qco h85,wh112,qco h114] <;> rfl) (kn rfl rfl (by first | simp only [go_sem,seval,qid] | rfl) (by first | simp only [go_sem,seval,qid] | rfl))
 ·cases h
  exact qk (by simp only [go_sem,seval,qme,qid,h77,qub] <;> rfl)
theorem jca (a0:Option (List qf)) {s0:(List UInt8) × Int} {d} (h:itO (qg1 a0) s0=some d):X pr (.loop qme) (qid a0 s0)=some (qub a0 d):=zz (je8 a0) (fun d hh=>by cases hh) h
noncomputable def f94 (a0:Option (List qf)):Option (List UInt8):=
 qg (itO (qg1 a0) ([],0)) fun d115=>
 some d115.1
theorem W94 {a0:Option (List qf)} {r} (h:f94 a0=some r):qd pr (X pr) 94 [sl 8 qn a0]=some (.str r,false):=by
 unfold f94 at h
 obtain ⟨d115,h116,h⟩:=qb h
 have wh116:X pr (.loop qme) ⟨[(0,sl 8 qn a0,false),(3,.str [],false),(4,.int .i64 0,false)],[]⟩=some (.exit 0,⟨[(0,sl 8 qn a0,false),(3,.str d115.1,false),(4,.int .i64 d115.2,false),(11,.bool false,false)],[]⟩):=jca a0 h116
 have hr:d115.1=r:=Option.some.inj h
 subst hr
 have this:∃ hh,ja pr (X pr) 94 [sl 8 qn a0] []=some (.str d115.1,false,hh):=by
  rw [ql (show pr.fns 94=some c94 from rfl) (by simp)]
  simp only [go_sem,seval,c94,wh116]
  exact ⟨_,rfl⟩
 obtain ⟨hh,this⟩:=this
 exact jj rfl this (by first | rfl | simp only [go_sem,seval]) (by first | rfl | simp only [go_sem,seval])
noncomputable def qeb (v2:Option (List (List UInt8))) (s0:(Option (List qf)) × Int × Bool) (v151:Option (List (List UInt8))) (s1:(Option (List Int)) × Int × Bool):Option (((Option (List Int)) × Int × Bool) ⊕ (Unit ⊕ ((Option (List Int)) × Bool × Int))):=
 cond (decide (s1.2.1 < 8))
  (qg (jy (v151.getD []) s1.2.1) fun v178=>
  qg (f154 v178) fun v180=>
  cond v180.2
   (cond s1.2.2
    (qg (apO s1.1 [v180.1]) fun v184=>
    some (.inl (v184,qi .i64 (s1.2.1 + 1),true)))
    (cond s1.1.isNone
     (qg (apO s1.1 [v180.1]) fun v187=>
     some (.inl (v187,qi .i64 (s1.2.1 + 1),true)))
     (none)))
   (some (.inr (.inl ()))))
  (some (.inr (.inr (s1.1,s1.2.2,s1.2.1))))
def qis (v2:Option (List (List UInt8))) (s0:(Option (List qf)) × Int × Bool) (v151:Option (List (List UInt8))) (s1:(Option (List Int)) × Int × Bool):ASt:=⟨[(5,sl 8 qn s0.1,s0.2.2),(6,sl 1 j5 v2,true),(7,.int .i64 s0.2.1,false),(8,sl 1 j5 v151,true),(9,sl 1 jo s1.1,s1.2.2),(10,.int .i64 s1.2.1,false)],[]⟩
def qn7 (v2:Option (List (List UInt8))) (s0:(Option (List qf)) × Int × Bool) (v151:Option (List (List UInt8))):Unit ⊕ ((Option (List Int)) × Bool × Int)→je × ASt
 | .inl d=>(.ret,⟨[(2,.list true 0 [],false),(3,.int .i64 s0.2.1,false),(4,.int .i64 26,false)],[]⟩)
 | .inr d=>(.exit 2,⟨[(5,sl 8 qn s0.1,s0.2.2),(6,sl 1 j5 v2,true),(7,.int .i64 s0.2.1,false),(8,sl 1 j5 v151,true),(9,sl 1 jo d.1,d.2.1),(10,.int .i64 d.2.2,false),(58,.bool false,false)],[]⟩)
theorem jaw (v2:Option (List (List UInt8))) (s0:(Option (List qf)) × Int × Bool) (v151:Option (List (List UInt8))) (s1:(Option (List Int)) × Int × Bool) (r) (h:qeb v2 s0 v151 s1=some r):zh pr qfg (qis v2 s0 v151) (qn7 v2 s0 v151) s1 r:=by
 unfold qeb at h
 rcases qa h with ⟨h177,h⟩ | ⟨h177,h⟩
 ·obtain ⟨v178,h179,h⟩:=qb h
  obtain ⟨v180,h181,h⟩:=qb h
  have wh181:qd pr (X pr) 154 [.str v178]=some (.tup [.int .i64 v180.1,.bool v180.2],false):=jlp h181
  rcases qa h with ⟨h182,h⟩ | ⟨h182,h⟩
  ·rcases qa h with ⟨h183,h⟩ | ⟨h183,h⟩
   ·obtain ⟨v184,h185,h⟩:=qb h
    cases h
    exact qq (st':=⟨[(5,sl 8 qn s0.1,s0.2.2),(6,sl 1 j5 v2,true),(7,.int .i64 s0.2.1,false),(8,sl 1 j5 v151,true),(9,sl 1 jo v184,true),(10,.int .i64 (qi .i64 (s1.2.1 + 1)),false)],[]⟩) (by simp only [go_sem,seval,qfg,qis,h177,q9 h179,wh181,h182,h183,qjx h185] <;> rfl) (qw (Nat.le_refl _))
   ·rcases qa h with ⟨h186,h⟩ | ⟨h186,h⟩
    ·obtain ⟨v187,h188,h⟩:=qb h
     cases h
     exact qq (st':=⟨[(5,sl 8 qn s0.1,s0.2.2),(6,sl 1 j5 v2,true),(7,.int .i64 s0.2.1,false),(8,sl 1 j5 v151,true),(9,sl 1 jo v187,true),(10,.int .i64 (qi .i64 (s1.2.1 + 1)),false)],[]⟩) (by simp only [go_sem,seval,qfg,qis,h177,q9 h179,wh181,h182,h183,h186,qjf h188 h186] <;> rfl) (qw (Nat.le_refl _))
    ·cases h
  ·cases h
   exact qk (by simp only [go_sem,seval,qfg,qis,h177,q9 h179,wh181,h182,qn7] <;> rfl)
 ·cases h
  exact qk (by simp only [go_sem,seval,qfg,qis,h177,qn7] <;> rfl)
theorem q3g (v2:Option (List (List UInt8))) (s0:(Option (List qf)) × Int × Bool) (v151:Option (List (List UInt8))) {s1:(Option (List Int)) × Int × Bool} {d} (h:itO (qeb v2 s0 v151) s1=some d):X pr (.loop qfg) (qis v2 s0 v151 s1)=some (qn7 v2 s0 v151 d):=zz (jaw v2 s0 v151) (fun d=>by rcases d with d|d <;> (intro hh; cases hh)) h
noncomputable def qb0 (v2:Option (List (List UInt8))) (s0:(Option (List qf)) × Int × Bool):Option (((Option (List qf)) × Int × Bool) ⊕ (Int ⊕ ((Option (List qf)) × Bool × Int))):=
 cond (decide (s0.2.1 < ((v2.getD []).length:Int)))
  (cond (decide (s0.2.1=(qi .i64 (((v2.getD []).length:Int) - 1))))
   (qg (jy (v2.getD []) s0.2.1) fun v146=>
   cond (decide (v146=[]))
    (some (.inl (s0.1,qi .i64 (s0.2.1 + 1),s0.2.2)))
    (some (.inr (.inl s0.2.1))))
   (qg (jy (v2.getD []) s0.2.1) fun v149=>
   qg (f96 v149 32) fun v151=>
   cond (decide (((v151.getD []).length:Int)=8))
    (qg (jy (v151.getD []) 0) fun v154=>
    cond (decide (v154=[]))
     (some (.inr (.inl s0.2.1)))
     (qg (jy (v151.getD []) 1) fun v157=>
     cond (decide (v157=[]))
      (some (.inr (.inl s0.2.1)))
      (qg (itO (qeb v2 s0 v151) (none,2,false)) fun d189=>match d189 with
       | .inl d191=>
        some (.inr (.inl s0.2.1))
       | .inr d192=>
        qg (jy (d192.1.getD []) 0) fun v193=>
        qg (jy (d192.1.getD []) 1) fun v195=>
        qg (jy (d192.1.getD []) 2) fun v197=>
        qg (jy (d192.1.getD []) 3) fun v199=>
        qg (jy (d192.1.getD []) 4) fun v201=>
        qg (jy (d192.1.getD []) 5) fun v203=>
        cond s0.2.2
         (qg (apO s0.1 [⟨v154,v157,v193,v195,v197,v199,v201,v203⟩]) fun v206=>
         some (.inl (v206,qi .i64 (s0.2.1 + 1),true)))
         (cond s0.1.isNone
          (qg (apO s0.1 [⟨v154,v157,v193,v195,v197,v199,v201,v203⟩]) fun v209=>
          some (.inl (v209,qi .i64 (s0.2.1 + 1),true)))
          (none)))))
    (some (.inr (.inl s0.2.1)))))
  (some (.inr (.inr (s0.1,s0.2.2,s0.2.1))))
def qce (v2:Option (List (List UInt8))) (s0:(Option (List qf)) × Int × Bool):ASt:=⟨[(5,sl 8 qn s0.1,s0.2.2),(6,sl 1 j5 v2,true),(7,.int .i64 s0.2.1,false)],[]⟩
def qe3 (v2:Option (List (List UInt8))):Int ⊕ ((Option (List qf)) × Bool × Int)→je × ASt
 | .inl d=>(.ret,⟨[(2,.list true 0 [],false),(3,.int .i64 d,false),(4,.int .i64 26,false)],[]⟩)
 | .inr d=>(.exit 0,⟨[(5,sl 8 qn d.1,d.2.1),(6,sl 1 j5 v2,true),(7,.int .i64 d.2.2,false),(22,.bool false,false)],[]⟩)
theorem jcl (v2:Option (List (List UInt8))) (s0:(Option (List qf)) × Int × Bool) (r) (h:qb0 v2 s0=some r):zh pr qb4 (qce v2) (qe3 v2) s0 r:=by
 unfold qb0 at h
 rcases qa h with ⟨h144,h⟩ | ⟨h144,h⟩
 ·rcases qa h with ⟨h145,h⟩ | ⟨h145,h⟩
  ·obtain ⟨v146,h147,h⟩:=qb h
   rcases qa h with ⟨h148,h⟩ | ⟨h148,h⟩
   ·cases h
    exact qq (st':=⟨[(5,sl 8 qn s0.1,s0.2.2),(6,sl 1 j5 v2,true),(7,.int .i64 (qi .i64 (s0.2.1 + 1)),false)],[]⟩) (by simp only [go_sem,seval,qb4,qce,h144,h145,q9 h147,h148] <;> rfl) (qw (Nat.le_refl _))
   ·cases h
    exact qk (by simp only [go_sem,seval,qb4,qce,h144,h145,q9 h147,h148,qe3] <;> rfl)
  ·obtain ⟨v149,h150,h⟩:=qb h
   obtain ⟨v151,h152,h⟩:=qb h
   have wh152:qd pr (X pr) 96 [.str v149,.int .u8 32]=some (sl 1 j5 v151,true):=W96 h152
   rcases qa h with ⟨h153,h⟩ | ⟨h153,h⟩
   ·obtain ⟨v154,h155,h⟩:=qb h
    rcases qa h with ⟨h156,h⟩ | ⟨h156,h⟩
    ·cases h
     exact qk (by simp only [go_sem,seval,qb4,qce,h144,h145,q9 h150,wh152,h153,q9 h155,h156,qe3] <;> rfl)
    ·obtain ⟨v157,h158,h⟩:=qb h
     rcases qa h with ⟨h159,h⟩ | ⟨h159,h⟩
     ·cases h
      exact qk (by simp only [go_sem,seval,qb4,qce,h144,h145,q9 h150,wh152,h153,q9 h155,h156,q9 h158,h159,qe3] <;> rfl)
     ·obtain ⟨d189,h190,h⟩:=qb h
      rcases d189 with d191 | d192
      ·have wh190:X pr (.loop qfg) ⟨[(5,sl 8 qn s0.1,s0.2.2),(6,sl 1 j5 v2,true),(7,.int .i64 s0.2.1,false),(8,sl 1 j5 v151,true),(9,.list true 0 [],false),(10,.int .i64 2,false)],[]⟩=some (.ret,⟨[(2,.list true 0 [],false),(3,.int .i64 s0.2.1,false),(4,.int .i64 26,false)],[]⟩):=q3g v2 s0 v151 h190
       cases h
       exact qk (by simp only [go_sem,seval,qb4,qce,h144,h145,q9 h150,wh152,h153,q9 h155,h156,q9 h158,h159,wh190,qe3] <;> rfl)
      ·have wh190:X pr (.loop qfg) ⟨[(5,sl 8 qn s0.1,s0.2.2),(6,sl 1 j5 v2,true),(7,.int .i64 s0.2.1,false),(8,sl 1 j5 v151,true),(9,.list true 0 [],false),(10,.int .i64 2,false)],[]⟩=some (.exit 2,⟨[(5,sl 8 qn s0.1,s0.2.2),(6,sl 1 j5 v2,true),(7,.int .i64 s0.2.1,false),(8,sl 1 j5 v151,true),(9,sl 1 jo d192.1,d192.2.1),(10,.int .i64 d192.2.2,false),(58,.bool false,false)],[]⟩):=q3g v2 s0 v151 h190
       obtain ⟨v193,h194,h⟩:=qb h
       obtain ⟨v195,h196,h⟩:=qb h
       obtain ⟨v197,h198,h⟩:=qb h
       obtain ⟨v199,h200,h⟩:=qb h
       obtain ⟨v201,h202,h⟩:=qb h
       obtain ⟨v203,h204,h⟩:=qb h
       rcases qa h with ⟨h205,h⟩ | ⟨h205,h⟩
       ·try simp only [h205] at wh190
        obtain ⟨v206,h207,h⟩:=qb h
        cases h
        exact qq (st':=⟨[(5,sl 8 qn v206,true),(6,sl 1 j5 v2,true),(7,.int .i64 (qi .i64 (s0.2.1 + 1)),false)],[]⟩) (by simp only [go_sem,seval,qb4,qce,h144,h145,q9 h150,wh152,h153,q9 h155,h156,q9 h158,h159,wh190,q9 h194,q9 h196,q9 h198,q9 h200,q9 h202,q9 h204,h205,qee h207] <;> rfl) (qw (Nat.le_refl _))
       ·try simp only [h205] at wh190
        rcases qa h with ⟨h208,h⟩ | ⟨h208,h⟩
        ·try simp only [h208] at wh190
         obtain ⟨v209,h210,h⟩:=qb h
         cases h
         exact qq (st':=⟨[(5,sl 8 qn v209,true),(6,sl 1 j5 v2,true),(7,.int .i64 (qi .i64 (s0.2.1 + 1)),false)],[]⟩) (by simp only [go_sem,seval,qb4,qce,h144,h145,q9 h150,wh152,h153,q9 h155,h156,q9 h158,h159,wh190,q9 h194,q9 h196,q9 h198,q9 h200,q9 h202,q9 h204,h205,h208,qei h210 h208] <;> rfl) (qw (Nat.le_refl _))
        ·try simp only [h208] at wh190
         cases h
   ·cases h
    exact qk (by simp only [go_sem,seval,qb4,qce,h144,h145,q9 h150,wh152,h153,qe3] <;> rfl)
 ·cases h
  exact qk (by simp only [go_sem,seval,qb4,qce,h144,qe3] <;> rfl)
theorem q3p (v2:Option (List (List UInt8))) {s0:(Option (List qf)) × Int × Bool} {d} (h:itO (qb0 v2) s0=some d):X pr (.loop qb4) (qce v2 s0)=some (qe3 v2 d):=zz (jcl v2) (fun d=>by rcases d with d|d <;> (intro hh; cases hh)) h
noncomputable def f95 (a0:List UInt8):Option ((Option (List qf)) × Int × Int):=
 cond (decide (1000000 < (a0.length:Int)))
  (some (none,0,27))
  (qg (f96 a0 10) fun v2=>
  qg (itO (qb0 v2) (none,0,false)) fun d211=>match d211 with
   | .inl d213=>
    some (none,d213,26)
   | .inr d214=>
    qg (f25 d214.1) fun v215=>
    cond (decide (v215=0))
     (some (d214.1,0,0))
     (some (none,qi .i64 (((v2.getD []).length:Int) - 1),v215)))
theorem W95 {a0:List UInt8} {r} (h:f95 a0=some r):qd pr (X pr) 95 [.str a0]=some (.tup [sl 8 qn r.1,.int .i64 r.2.1,.int .i64 r.2.2],false):=by
 unfold f95 at h
 rcases qa h with ⟨h1,h⟩ | ⟨h1,h⟩
 ·have hr:(none,0,27)=r:=Option.some.inj h
  subst hr
  have this:∃ hh,ja pr (X pr) 95 [.str a0] []=some (.tup [.list true 0 [],.int .i64 0,.int .i64 27],false,hh):=by
   rw [ql (show pr.fns 95=some c95 from rfl) (by simp)]
   simp only [go_sem,seval,c95,h1]
   exact ⟨_,rfl⟩
  obtain ⟨hh,this⟩:=this
  exact jj rfl this (by first | rfl | simp only [go_sem,seval]) (by first | rfl | simp only [go_sem,seval])
 ·obtain ⟨v2,h3,h⟩:=qb h
  have wh3:qd pr (X pr) 96 [.str a0,.int .u8 10]=some (sl 1 j5 v2,true):=W96 h3
  obtain ⟨d211,h212,h⟩:=qb h
  rcases d211 with d213 | d214
  ·have wh212:X pr (.loop qb4) ⟨[(5,.list true 0 [],false),(6,sl 1 j5 v2,true),(7,.int .i64 0,false)],[]⟩=some (.ret,⟨[(2,.list true 0 [],false),(3,.int .i64 d213,false),(4,.int .i64 26,false)],[]⟩):=q3p v2 h212
   have hr:(none,d213,26)=r:=Option.some.inj h
   subst hr
   have this:∃ hh,ja pr (X pr) 95 [.str a0] []=some (.tup [.list true 0 [],.int .i64 d213,.int .i64 26],false,hh):=by
    rw [ql (show pr.fns 95=some c95 from rfl) (by simp)]
    simp only [go_sem,seval,c95,h1,wh3,wh212]
    exact ⟨_,rfl⟩
   obtain ⟨hh,this⟩:=this
   exact jj rfl this (by first | rfl | simp only [go_sem,seval]) (by first | rfl | simp only [go_sem,seval])
  ·have wh212:X pr (.loop qb4) ⟨[(5,.list true 0 [],false),(6,sl 1 j5 v2,true),(7,.int .i64 0,false)],[]⟩=some (.exit 0,⟨[(5,sl 8 qn d214.1,d214.2.1),(6,sl 1 j5 v2,true),(7,.int .i64 d214.2.2,false),(22,.bool false,false)],[]⟩):=q3p v2 h212
   obtain ⟨v215,h216,h⟩:=qb h
   have wh216:qd pr (X pr) 25 [sl 8 qn d214.1]=some (.int .i64 v215,false):=W25 h216
   rcases qa h with ⟨h217,h⟩ | ⟨h217,h⟩
   ·try simp only [h217] at wh212
    have hr:(d214.1,0,0)=r:=Option.some.inj h
    subst hr
    have this:∃ hh,ja pr (X pr) 95 [.str a0] []=some (.tup [sl 8 qn d214.1,.int .i64 0,.int .i64 0],false,hh):=by
     rw [ql (show pr.fns 95=some c95 from rfl) (by simp)]
     simp only [go_sem,seval,c95,h1,wh3,wh212,wh216,h217]
     exact ⟨_,rfl⟩
    obtain ⟨hh,this⟩:=this
    exact jj rfl this (by first | rfl | simp only [go_sem,seval]) (by first | rfl | simp only [go_sem,seval])
   ·try simp only [h217] at wh212
    have hr:(none,qi .i64 (((v2.getD []).length:Int) - 1),v215)=r:=Option.some.inj h
    subst hr
    have this:∃ hh,ja pr (X pr) 95 [.str a0] []=some (.tup [.list true 0 [],.int .i64 (qi .i64 (((v2.getD []).length:Int) - 1)),.int .i64 v215],false,hh):=by
     rw [ql (show pr.fns 95=some c95 from rfl) (by simp)]
     simp only [go_sem,seval,c95,h1,wh3,wh212,wh216,h217]
     exact ⟨_,rfl⟩
    obtain ⟨hh,this⟩:=this
    exact jj rfl this (by first | rfl | simp only [go_sem,seval]) (by first | rfl | simp only [go_sem,seval])
end Go.Z
