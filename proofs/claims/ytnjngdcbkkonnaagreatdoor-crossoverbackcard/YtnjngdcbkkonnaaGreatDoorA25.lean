/- Chapter 4. -/
import Derived.Test.YtnjngdcbkkonnaaGreatDoorA1
import Derived.Test.YtnjngdcbkkonnaaGreatDoorG0
import Derived.Test.YtnjngdcbkkonnaaGreatDoorAbsL
set_option linter.unusedVariables false
set_option linter.unusedSimpArgs false
set_option maxRecDepth 100000
set_option maxHeartbeats 4000000
namespace Go.Z
open Go Go.Abs
noncomputable def qfb (a0:List UInt8) (a1:Int) (s0:(Option (List (List UInt8))) × Int × Int × Bool):Option (((Option (List (List UInt8))) × Int × Int × Bool) ⊕ (((Option (List (List UInt8))) × Bool × Int × Int))):=
 cond (decide (s0.2.2.1 < (a0.length:Int)))
  (qi (zz a0 s0.2.2.1) fun v20=>
  cond (decide ((v20.toNat:Int)=a1))
   (qi (kx a0 (some s0.2.1) (some s0.2.2.1)) fun v23=>
   cond s0.2.2.2
    (qi (apO s0.1 [v23]) fun v26=>
    some (.inl (v26,qk .i64 (s0.2.2.1 + 1),qk .i64 (s0.2.2.1 + 1),true)))
    (cond s0.1.isNone
     (qi (apO s0.1 [v23]) fun v29=>
     some (.inl (v29,qk .i64 (s0.2.2.1 + 1),qk .i64 (s0.2.2.1 + 1),true)))
     (none)))
   (some (.inl (s0.1,s0.2.1,qk .i64 (s0.2.2.1 + 1),s0.2.2.2))))
  (some (.inr (s0.1,s0.2.2.2,s0.2.1,s0.2.2.1)))
def qhu (a0:List UInt8) (a1:Int) (s0:(Option (List (List UInt8))) × Int × Int × Bool):ASt:=⟨[(0,.str a0,false),(1,.int .u8 a1,false),(5,sl 1 zi s0.1,s0.2.2.2),(6,.int .i64 s0.2.1,false),(7,.int .i64 s0.2.2.1,false)],[]⟩
def qrq (a0:List UInt8) (a1:Int) (d:((Option (List (List UInt8))) × Bool × Int × Int)):jg × ASt:=(.exit 0,⟨[(0,.str a0,false),(1,.int .u8 a1,false),(5,sl 1 zi d.1,d.2.1),(6,.int .i64 d.2.2.1,false),(7,.int .i64 d.2.2.2,false),(11,.bool false,false)],[]⟩)
theorem jem (a0:List UInt8) (a1:Int) (s0:(Option (List (List UInt8))) × Int × Int × Bool) (r) (h:qfb a0 a1 s0=some r):z6 pr qgq (qhu a0 a1) (qrq a0 a1) s0 r:=by
 unfold qfb at h
 rcases qa h with ⟨h19,h⟩ | ⟨h19,h⟩
 ·obtain ⟨v20,h21,h⟩:=qb h
  rcases qa h with ⟨h22,h⟩ | ⟨h22,h⟩
  ·obtain ⟨v23,h24,h⟩:=qb h
   rcases qa h with ⟨h25,h⟩ | ⟨h25,h⟩
   ·obtain ⟨v26,h27,h⟩:=qb h
    cases h
    exact qr (st':=⟨[(0,.str a0,false),(1,.int .u8 a1,false),(5,sl 1 zi v26,true),(6,.int .i64 (qk .i64 (s0.2.2.1 + 1)),false),(7,.int .i64 (qk .i64 (s0.2.2.1 + 1)),false)],[]⟩) (by simp only [go_sem,seval,qgq,qhu,h19,jl h21,h22,qp5 h24,h25,qi3 h27] <;> rfl) (qz (Nat.le_refl _))
   ·rcases qa h with ⟨h28,h⟩ | ⟨h28,h⟩
    ·obtain ⟨v29,h30,h⟩:=qb h
     cases h
     exact qr (st':=⟨[(0,.str a0,false),(1,.int .u8 a1,false),(5,sl 1 zi v29,true),(6,.int .i64 (qk .i64 (s0.2.2.1 + 1)),false),(7,.int .i64 (qk .i64 (s0.2.2.1 + 1)),false)],[]⟩) (by simp only [go_sem,seval,qgq,qhu,h19,jl h21,h22,qp5 h24,h25,h28,qjq h30 h28] <;> rfl) (qz (Nat.le_refl _))
    ·cases h
  ·cases h
   exact qr (st':=⟨[(0,.str a0,false),(1,.int .u8 a1,false),(5,sl 1 zi s0.1,s0.2.2.2),(6,.int .i64 s0.2.1,false),(7,.int .i64 (qk .i64 (s0.2.2.1 + 1)),false)],[]⟩) (by simp only [go_sem,seval,qgq,qhu,h19,jl h21,h22] <;> rfl) (qz (Nat.le_refl _))
 ·cases h
  exact qm (by simp only [go_sem,seval,qgq,qhu,h19,qrq] <;> rfl)
theorem jcy (a0:List UInt8) (a1:Int) {s0:(Option (List (List UInt8))) × Int × Int × Bool} {d} (h:itO (qfb a0 a1) s0=some d):X pr (.loop qgq) (qhu a0 a1 s0)=some (qrq a0 a1 d):=yp (jem a0 a1) (fun d hh=>by cases hh) h
noncomputable def f96 (a0:List UInt8) (a1:Int):Option (Option (List (List UInt8))):=
 qi (itO (qfb a0 a1) (none,0,0,false)) fun d31=>
 qi (kx a0 (some d31.2.2.1) none) fun v33=>
 cond d31.2.1
  (qi (apO d31.1 [v33]) fun v36=>
  some v36)
  (cond d31.1.isNone
   (qi (apO d31.1 [v33]) fun v39=>
   some v39)
   (none))
theorem W96 {a0:List UInt8} {a1:Int} {r} (h:f96 a0 a1=some r):qd pr (X pr) 96 [.str a0,.int .u8 a1]=some (sl 1 zi r,true):=by
 unfold f96 at h
 obtain ⟨d31,h32,h⟩:=qb h
 have wh32:X pr (.loop qgq) ⟨[(0,.str a0,false),(1,.int .u8 a1,false),(5,.list true 0 [],false),(6,.int .i64 0,false),(7,.int .i64 0,false)],[]⟩=some (.exit 0,⟨[(0,.str a0,false),(1,.int .u8 a1,false),(5,sl 1 zi d31.1,d31.2.1),(6,.int .i64 d31.2.2.1,false),(7,.int .i64 d31.2.2.2,false),(11,.bool false,false)],[]⟩):=jcy a0 a1 h32
 obtain ⟨v33,h34,h⟩:=qb h
 rcases qa h with ⟨h35,h⟩ | ⟨h35,h⟩
 ·obtain ⟨v36,h37,h⟩:=qb h
  have hr:v36=r:=Option.some.inj h
  subst hr
  have this:∃ hh,jc pr (X pr) 96 [.str a0,.int .u8 a1] []=some (sl 1 zi v36,true,hh):=by
   rw [qj (show pr.fns 96=some c96 from rfl) (by simp)]
   simp only [go_sem,seval,c96,wh32,qi8 h34,h35,qi3 h37]
   exact ⟨_,rfl⟩
  obtain ⟨hh,this⟩:=this
  exact zr rfl this (by first | rfl | simp only [go_sem,seval]) (by first | rfl | simp only [go_sem,seval]) (by first | rfl | simp only [go_sem,seval])
 ·rcases qa h with ⟨h38,h⟩ | ⟨h38,h⟩
  ·obtain ⟨v39,h40,h⟩:=qb h
   have hr:v39=r:=Option.some.inj h
   subst hr
   have this:∃ hh,jc pr (X pr) 96 [.str a0,.int .u8 a1] []=some (sl 1 zi v39,true,hh):=by
    rw [qj (show pr.fns 96=some c96 from rfl) (by simp)]
    simp only [go_sem,seval,c96,wh32,qi8 h34,h35,h38,qjq h40 h38]
    exact ⟨_,rfl⟩
   obtain ⟨hh,this⟩:=this
   exact zr rfl this (by first | rfl | simp only [go_sem,seval]) (by first | rfl | simp only [go_sem,seval]) (by first | rfl | simp only [go_sem,seval])
  ·cases h
noncomputable def qcq (a0:List UInt8) (s0:Int × Nat):Option ((Int × Nat) ⊕ (Nat ⊕ (Int × Nat))):=
 cond (decide (s0.2 < a0.length))
  (cond (decide (((qe a0 s0.2).1:Int) < 48))
   (some (.inr (.inl (s0.2 + (qe a0 s0.2).2))))
   (cond (decide (57 < ((qe a0 s0.2).1:Int)))
    (some (.inr (.inl (s0.2 + (qe a0 s0.2).2))))
    (cond (decide (9 < (a0.length:Int)))
     (some (.inr (.inl (s0.2 + (qe a0 s0.2).2))))
     (some (.inl (qk .i64 ((qk .i64 (10 * s0.1)) + (qk .i64 (qk .i32 (((qe a0 s0.2).1:Int) - 48)))),s0.2 + (qe a0 s0.2).2))))))
  (some (.inr (.inr (s0.1,s0.2))))
def qdu (a0:List UInt8) (s0:Int × Nat):ASt:=⟨[(0,.str a0,false),(4,.int .i64 s0.1,false),(8,.ptr 0 0,false)],[.iter a0 s0.2]⟩
def qfo (a0:List UInt8):Nat ⊕ (Int × Nat)→jg × ASt
 | .inl d=>(.ret,⟨[(2,.int .i64 0,false),(3,.bool false,false)],[.iter a0 d]⟩)
 | .inr d=>(.exit 0,⟨[(0,.str a0,false),(4,.int .i64 d.1,false),(8,.ptr 0 0,false),(9,.tup [.bool false],false),(10,.bool false,false)],[.iter a0 d.2]⟩)
theorem q6o (a0:List UInt8) (s0:Int × Nat) (r) (h:qcq a0 s0=some r):z6 pr qco (qdu a0) (qfo a0) s0 r:=by
 unfold qcq at h
 rcases qa h with ⟨h9,h⟩ | ⟨h9,h⟩
 ·rcases qa h with ⟨h10,h⟩ | ⟨h10,h⟩
  ·cases h
   exact qm (by simp only [go_sem,seval,qco,qdu,h9,ji h9,h10,qfo] <;> rfl)
  ·rcases qa h with ⟨h11,h⟩ | ⟨h11,h⟩
   ·cases h
    exact qm (by simp only [go_sem,seval,qco,qdu,h9,ji h9,h10,h11,qfo] <;> rfl)
   ·rcases qa h with ⟨h12,h⟩ | ⟨h12,h⟩
    ·cases h
     exact qm (by simp only [go_sem,seval,qco,qdu,h9,ji h9,h10,h11,h12,qfo] <;> rfl)
    ·cases h
     exact qr (st':=⟨[(0,.str a0,false),(4,.int .i64 (qk .i64 ((qk .i64 (10 * s0.1)) + (qk .i64 (qk .i32 (((qe a0 s0.2).1:Int) - 48))))),false),(8,.ptr 0 0,false)],[.iter a0 (s0.2 + (qe a0 s0.2).2)]⟩) (by simp only [go_sem,seval,qco,qdu,h9,ji h9,h10,h11,h12] <;> rfl) (qz (Nat.le_refl _))
 ·cases h
  exact qm (by simp only [go_sem,seval,qco,qdu,h9,qrp h9,qfo] <;> rfl)
theorem qyy (a0:List UInt8) {s0:Int × Nat} {d} (h:itO (qcq a0) s0=some d):X pr (.loop qco) (qdu a0 s0)=some (qfo a0 d):=yp (q6o a0) (fun d=>by rcases d with d|d <;> (intro hh; cases hh)) h
noncomputable def f217 (a0:List UInt8):Option (Int × Bool):=
 qi (itO (qcq a0) (0,0)) fun d13=>match d13 with
  | .inl d15=>
   some (0,false)
  | .inr d16=>
   cond (decide (a0=[]))
    (some (d16.1,false))
    (cond (decide ((a0.length:Int)=1))
     (some (d16.1,true))
     (qi (zz a0 0) fun v19=>
     some (d16.1,!decide ((v19.toNat:Int)=48))))
theorem jid {a0:List UInt8} {r} (h:f217 a0=some r):qd pr (X pr) 217 [.str a0]=some (.tup [.int .i64 r.1,.bool r.2],false):=by
 unfold f217 at h
 obtain ⟨d13,h14,h⟩:=qb h
 rcases d13 with d15 | d16
 ·have wh14:X pr (.loop qco) ⟨[(0,.str a0,false),(4,.int .i64 0,false),(8,.ptr 0 0,false)],[.iter a0 0]⟩=some (.ret,⟨[(2,.int .i64 0,false),(3,.bool false,false)],[.iter a0 d15]⟩):=qyy a0 h14
  have hr:(0,false)=r:=Option.some.inj h
  subst hr
  have this:∃ hh,jc pr (X pr) 217 [.str a0] []=some (.tup [.int .i64 0,.bool false],false,hh):=by
   rw [qj (show pr.fns 217=some c217 from rfl) (by simp)]
   simp only [go_sem,seval,c217,wh14]
   exact ⟨_,rfl⟩
  obtain ⟨hh,this⟩:=this
  exact jt rfl this (by first | rfl | simp only [go_sem,seval]) (by first | rfl | simp only [go_sem,seval])
 ·have wh14:X pr (.loop qco) ⟨[(0,.str a0,false),(4,.int .i64 0,false),(8,.ptr 0 0,false)],[.iter a0 0]⟩=some (.exit 0,⟨[(0,.str a0,false),(4,.int .i64 d16.1,false),(8,.ptr 0 0,false),(9,.tup [.bool false],false),(10,.bool false,false)],[.iter a0 d16.2]⟩):=qyy a0 h14
  rcases qa h with ⟨h17,h⟩ | ⟨h17,h⟩
  ·have hr:(d16.1,false)=r:=Option.some.inj h
   subst hr
   have this:∃ hh,jc pr (X pr) 217 [.str a0] []=some (.tup [.int .i64 d16.1,.bool false],false,hh):=by
    rw [qj (show pr.fns 217=some c217 from rfl) (by simp)]
    simp only [go_sem,seval,c217,wh14,h17]
    exact ⟨_,rfl⟩
   obtain ⟨hh,this⟩:=this
   exact jt rfl this (by first | rfl | simp only [go_sem,seval]) (by first | rfl | simp only [go_sem,seval])
  ·rcases qa h with ⟨h18,h⟩ | ⟨h18,h⟩
   ·have hr:(d16.1,true)=r:=Option.some.inj h
    subst hr
    have this:∃ hh,jc pr (X pr) 217 [.str a0] []=some (.tup [.int .i64 d16.1,.bool true],false,hh):=by
     rw [qj (show pr.fns 217=some c217 from rfl) (by simp)]
     simp only [go_sem,seval,c217,wh14,h17,h18]
     exact ⟨_,rfl⟩
    obtain ⟨hh,this⟩:=this
    exact jt rfl this (by first | rfl | simp only [go_sem,seval]) (by first | rfl | simp only [go_sem,seval])
   ·obtain ⟨v19,h20,h⟩:=qb h
    have hr:(d16.1,!decide ((v19.toNat:Int)=48))=r:=Option.some.inj h
    subst hr
    have this:∃ hh,jc pr (X pr) 217 [.str a0] []=some (.tup [.int .i64 d16.1,.bool (!decide ((v19.toNat:Int)=48))],false,hh):=by
     rw [qj (show pr.fns 217=some c217 from rfl) (by simp)]
     simp only [go_sem,seval,c217,wh14,h17,h18,jl h20]
     exact ⟨_,rfl⟩
    obtain ⟨hh,this⟩:=this
    exact jt rfl this (by first | rfl | simp only [go_sem,seval]) (by first | rfl | simp only [go_sem,seval])
noncomputable def qjj (a0:Option (List qg)) (s0:(Option (List qg)) × Int × Bool):Option (((Option (List qg)) × Int × Bool) ⊕ (((Option (List qg)) × Bool × Int))):=
 cond (decide (s0.2.1 < ((a0.getD []).length:Int)))
  (qi (zz (a0.getD []) s0.2.1) fun v14=>
  cond s0.2.2
   (qi (apO s0.1 [v14]) fun v17=>
   some (.inl (v17,qk .i64 (s0.2.1 + 1),true)))
   (cond s0.1.isNone
    (qi (apO s0.1 [v14]) fun v20=>
    some (.inl (v20,qk .i64 (s0.2.1 + 1),true)))
    (none)))
  (some (.inr (s0.1,s0.2.2,s0.2.1)))
def qdh (a0:Option (List qg)) (s0:(Option (List qg)) × Int × Bool):ASt:=⟨[(3,sl 8 qq s0.1,s0.2.2),(6,sl 8 qq a0,false),(7,.int .i64 ((a0.getD []).length:Int),false),(8,.int .i64 s0.2.1,false)],[]⟩
def qtk (a0:Option (List qg)) (d:((Option (List qg)) × Bool × Int)):jg × ASt:=(.exit 0,⟨[(3,sl 8 qq d.1,d.2.1),(6,sl 8 qq a0,false),(7,.int .i64 ((a0.getD []).length:Int),false),(8,.int .i64 d.2.2,false),(9,.bool false,false)],[]⟩)
theorem jd0 (a0:Option (List qg)) (s0:(Option (List qg)) × Int × Bool) (r) (h:qjj a0 s0=some r):z6 pr qiy (qdh a0) (qtk a0) s0 r:=by
 unfold qjj at h
 rcases qa h with ⟨h13,h⟩ | ⟨h13,h⟩
 ·obtain ⟨v14,h15,h⟩:=qb h
  rcases qa h with ⟨h16,h⟩ | ⟨h16,h⟩
  ·obtain ⟨v17,h18,h⟩:=qb h
   cases h
   exact qr (st':=⟨[(3,sl 8 qq v17,true),(6,sl 8 qq a0,false),(7,.int .i64 ((a0.getD []).length:Int),false),(8,.int .i64 (qk .i64 (s0.2.1 + 1)),false)],[]++[.cells [(.str v14.name,false),(.str v14.kd,false),(.int .i64 v14.pa,false),(.int .i64 v14.pb,false),(.int .i64 v14.sa,false),(.int .i64 v14.sb,false),(.int .i64 v14.cost,false),(.int .i64 v14.stock,false)]]⟩) (by simp only [go_sem,seval,qiy,qdh,h13,jj h15,h16,qhp h18] <;> rfl) (kz rfl rfl (by first | simp only [go_sem,seval,qdh] | rfl) (by first | simp only [go_sem,seval,qdh] | rfl))
  ·rcases qa h with ⟨h19,h⟩ | ⟨h19,h⟩
   ·obtain ⟨v20,h21,h⟩:=qb h
    cases h
    exact qr (st':=⟨[(3,sl 8 qq v20,true),(6,sl 8 qq a0,false),(7,.int .i64 ((a0.getD []).length:Int),false),(8,.int .i64 (qk .i64 (s0.2.1 + 1)),false)],[]++[.cells [(.str v14.name,false),(.str v14.kd,false),(.int .i64 v14.pa,false),(.int .i64 v14.pb,false),(.int .i64 v14.sa,false),(.int .i64 v14.sb,false),(.int .i64 v14.cost,false),(.int .i64 v14.stock,false)]]⟩) (by simp only [go_sem,seval,qiy,qdh,h13,jj h15,h16,h19,qhb h21 h19] <;> rfl) (kz rfl rfl (by first | simp only [go_sem,seval,qdh] | rfl) (by first | simp only [go_sem,seval,qdh] | rfl))
   ·cases h
 ·cases h
  exact qm (by simp only [go_sem,seval,qiy,qdh,h13,qtk] <;> rfl)
theorem q9v (a0:Option (List qg)) {s0:(Option (List qg)) × Int × Bool} {d} (h:itO (qjj a0) s0=some d):X pr (.loop qiy) (qdh a0 s0)=some (qtk a0 d):=yp (jd0 a0) (fun d hh=>by cases hh) h
noncomputable def f75 (a0:Option (List qg)):Option ((Option (List qg)) × Bool):=
 qi (itO (qjj a0) (none,0,false)) fun d22=>
 some (d22.1,d22.2.1)
theorem W75 {a0:Option (List qg)} {r} (h:f75 a0=some r):qd pr (X pr) 75 [sl 8 qq a0]=some (sl 8 qq r.1,r.2):=by
 unfold f75 at h
 obtain ⟨d22,h23,h⟩:=qb h
 have wh23:X pr (.loop qiy) ⟨[(3,.list true 0 [],false),(6,sl 8 qq a0,false),(7,.int .i64 ((a0.getD []).length:Int),false),(8,.int .i64 0,false)],[]⟩=some (.exit 0,⟨[(3,sl 8 qq d22.1,d22.2.1),(6,sl 8 qq a0,false),(7,.int .i64 ((a0.getD []).length:Int),false),(8,.int .i64 d22.2.2,false),(9,.bool false,false)],[]⟩):=q9v a0 h23
 have hr:(d22.1,d22.2.1)=r:=Option.some.inj h
 subst hr
 have this:∃ hh,jc pr (X pr) 75 [sl 8 qq a0] []=some (sl 8 qq d22.1,d22.2.1,hh):=by
  rw [qj (show pr.fns 75=some c75 from rfl) (by simp)]
  simp only [go_sem,seval,c75,wh23]
  exact ⟨_,rfl⟩
 obtain ⟨hh,this⟩:=this
 exact zr rfl this (by first | rfl | simp only [go_sem,seval]) (by first | rfl | simp only [go_sem,seval]) (by first | rfl | simp only [go_sem,seval])
noncomputable def qis (a0:Option (List qg)) (a1:Option (List qg)) (s0:Int):Option (Int ⊕ (Unit ⊕ Int)):=
 cond (decide (s0 < ((a0.getD []).length:Int)))
  (qi (zz (a0.getD []) s0) fun v15=>
  qi (zz (a1.getD []) s0) fun v17=>
  cond (decide (v15.name=v17.name) && decide (v15.kd=v17.kd) && decide (v15.pa=v17.pa) && decide (v15.pb=v17.pb) && decide (v15.sa=v17.sa) && decide (v15.sb=v17.sb) && decide (v15.cost=v17.cost) && decide (v15.stock=v17.stock))
   (some (.inl (qk .i64 (s0 + 1))))
   (some (.inr (.inl ()))))
  (some (.inr (.inr s0)))
def qk5 (a0:Option (List qg)) (a1:Option (List qg)) (s0:Int):ASt:=⟨[(0,sl 8 qq a0,false),(1,sl 8 qq a1,false),(5,.int .i64 s0,false)],[]⟩
def qn3 (a0:Option (List qg)) (a1:Option (List qg)):Unit ⊕ Int→jg × ASt
 | .inl d=>(.ret,⟨[(4,.bool false,false)],[]⟩)
 | .inr d=>(.exit 0,⟨[(0,sl 8 qq a0,false),(1,sl 8 qq a1,false),(5,.int .i64 d,false),(14,.bool false,false)],[]⟩)
theorem jbs (a0:Option (List qg)) (a1:Option (List qg)) (s0:Int) (r) (h:qis a0 a1 s0=some r):z6 pr qgv (qk5 a0 a1) (qn3 a0 a1) s0 r:=by
 unfold qis at h
 rcases qa h with ⟨h14,h⟩ | ⟨h14,h⟩
 ·obtain ⟨v15,h16,h⟩:=qb h
  obtain ⟨v17,h18,h⟩:=qb h
  rcases qa h with ⟨h19,h⟩ | ⟨h19,h⟩
  ·cases h
   exact qr (st':=⟨[(0,sl 8 qq a0,false),(1,sl 8 qq a1,false),(5,.int .i64 (qk .i64 (s0 + 1)),false)],[]⟩) (by simp only [go_sem,seval,qgv,qk5,h14,jj h16,jj h18,h19] <;> rfl) (qz (Nat.le_refl _))
  ·cases h
   exact qm (by simp only [go_sem,seval,qgv,qk5,h14,jj h16,jj h18,h19,qn3] <;> rfl)
 ·cases h
  exact qm (by simp only [go_sem,seval,qgv,qk5,h14,qn3] <;> rfl)
theorem q23 (a0:Option (List qg)) (a1:Option (List qg)) {s0:Int} {d} (h:itO (qis a0 a1) s0=some d):X pr (.loop qgv) (qk5 a0 a1 s0)=some (qn3 a0 a1 d):=yp (jbs a0 a1) (fun d=>by rcases d with d|d <;> (intro hh; cases hh)) h
noncomputable def f74 (a0:Option (List qg)) (a1:Option (List qg)):Option Bool:=
 cond (decide (((a0.getD []).length:Int)=((a1.getD []).length:Int)))
  (qi (itO (qis a0 a1) 0) fun d20=>match d20 with
   | .inl d22=>
    some false
   | .inr d23=>
    some true)
  (some false)
theorem W74 {a0:Option (List qg)} {a1:Option (List qg)} {r} (h:f74 a0 a1=some r):qd pr (X pr) 74 [sl 8 qq a0,sl 8 qq a1]=some (.bool r,false):=by
 unfold f74 at h
 rcases qa h with ⟨h1,h⟩ | ⟨h1,h⟩
 ·obtain ⟨d20,h21,h⟩:=qb h
  rcases d20 with d22 | d23
  ·have wh21:X pr (.loop qgv) ⟨[(0,sl 8 qq a0,false),(1,sl 8 qq a1,false),(5,.int .i64 0,false)],[]⟩=some (.ret,⟨[(4,.bool false,false)],[]⟩):=q23 a0 a1 h21
   have hr:false=r:=Option.some.inj h
   subst hr
   have this:∃ hh,jc pr (X pr) 74 [sl 8 qq a0,sl 8 qq a1] []=some (.bool false,false,hh):=by
    rw [qj (show pr.fns 74=some c74 from rfl) (by simp)]
    simp only [go_sem,seval,c74,h1,wh21]
    exact ⟨_,rfl⟩
   obtain ⟨hh,this⟩:=this
   exact jt rfl this (by first | rfl | simp only [go_sem,seval]) (by first | rfl | simp only [go_sem,seval])
  ·have wh21:X pr (.loop qgv) ⟨[(0,sl 8 qq a0,false),(1,sl 8 qq a1,false),(5,.int .i64 0,false)],[]⟩=some (.exit 0,⟨[(0,sl 8 qq a0,false),(1,sl 8 qq a1,false),(5,.int .i64 d23,false),(14,.bool false,false)],[]⟩):=q23 a0 a1 h21
   have hr:true=r:=Option.some.inj h
   subst hr
   have this:∃ hh,jc pr (X pr) 74 [sl 8 qq a0,sl 8 qq a1] []=some (.bool true,false,hh):=by
    rw [qj (show pr.fns 74=some c74 from rfl) (by simp)]
    simp only [go_sem,seval,c74,h1,wh21]
    exact ⟨_,rfl⟩
   obtain ⟨hh,this⟩:=this
   exact jt rfl this (by first | rfl | simp only [go_sem,seval]) (by first | rfl | simp only [go_sem,seval])
 ·have hr:false=r:=Option.some.inj h
  subst hr
  have this:∃ hh,jc pr (X pr) 74 [sl 8 qq a0,sl 8 qq a1] []=some (.bool false,false,hh):=by
   rw [qj (show pr.fns 74=some c74 from rfl) (by simp)]
   simp only [go_sem,seval,c74,h1]
   exact ⟨_,rfl⟩
  obtain ⟨hh,this⟩:=this
  exact jt rfl this (by first | rfl | simp only [go_sem,seval]) (by first | rfl | simp only [go_sem,seval])
end Go.Z
