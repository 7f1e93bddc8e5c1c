/-
  Lists of texts: appends to a list that is nil.
-/
import Derived.Test.YtoljkienfmckjaaGreatDoorG0m
import Derived.Test.YtoljkienfmckjaaGreatDoorR1
set_option linter.unusedVariables false
set_option linter.unusedSimpArgs false
namespace Go.Z
open Go Go.Abs
variable {h:Heap}
theorem app_vstr_N {b:Nat} {bb:Bool} {x:List UInt8} {o v:Option (List (List UInt8))} (hv:apO o [x]=some v) (hn:o.isNone=true):appR 1 b h none (some (sl 1 vstr o)) (some (.list bb 1 [.str x]))=ifR (decide (b≤4096)) (some ⟨sl 1 vstr v,true,none,h⟩):=app_none (by omega) rfl hn hv
theorem app_vunit_N {b:Nat} {bb:Bool} {t:List UInt8} {y:Option (List Int)} {o v:Option (List GUnit)} (hv:apO o [⟨t,y⟩]=some v) (hn:o.isNone=true):appR 2 b h none (some (sl 2 vunit o)) (some (.list bb 2 [.agg [.str t,sl 1 vint y]]))=ifR (decide (b≤4096)) (some ⟨sl 2 vunit v,true,none,h⟩):=app_none (by omega) rfl hn hv
theorem iter_t {b pos:Nat} {s:List UInt8} (hp:decide (pos < s.length)=true):iterR h b (some (.iter s pos))=newR (setBox h b (.iter s (pos + (decodeA s pos).2))) (.tup [.bool true,.int .i64 pos,.int .i32 (decodeA s pos).1]):=iterR_in (of_decide_eq_true hp)
theorem iter_f {b pos:Nat} {s:List UInt8} (hp:decide (pos < s.length)=false):iterR h b (some (.iter s pos))=some ⟨.tup [.bool false],false,none,h⟩:=iterR_out (of_decide_eq_false hp)
end Go.Z
/-
 LineTexts: the reference's texts: functions that mirror the runs,and the runs (printed by walk.py; seat .ZD).
-/
set_option maxRecDepth 100000
set_option maxHeartbeats 4000000
namespace Go.Z
open Go Go.Abs
noncomputable def s96_0 (a0:List UInt8) (s0:Int × Int):Option ((Int × Int) ⊕ (Unit ⊕ (Int × Int))):=
 cond (decide (s0.2 < (a0.length:Int)))
  (obind (idxO a0 s0.2) fun v18=>
  cond (decide ((v18.toNat:Int) < 48))
   (some (.inr (.inl ())))
   (cond (decide (57 < (v18.toNat:Int)))
    (some (.inr (.inl ())))
    (some (.inl (wrapF .i64 ((wrapF .i64 (10 * s0.1)) + (wrapF .i64 (wrapF .u8 ((v18.toNat:Int) - 48)))),wrapF .i64 (s0.2 + 1))))))
  (some (.inr (.inr (s0.1,s0.2))))
def St96_0 (a0:List UInt8) (s0:Int × Int):ASt:=⟨[(0,.str a0,false),(4,.int .i64 s0.1,false),(5,.int .i64 s0.2,false)],[]⟩
def Ex96_0 (a0:List UInt8):Unit ⊕ (Int × Int)→AExit × ASt
 | .inl d=>(.ret,⟨[(2,.int .i64 0,false),(3,.bool false,false)],[]⟩)
 | .inr d=>(.exit 0,⟨[(0,.str a0,false),(4,.int .i64 d.1,false),(5,.int .i64 d.2,false),(27,.bool false,false)],[]⟩)
theorem b96_0 (a0:List UInt8) (s0:Int × Int) (r) (h:s96_0 a0 s0=some r):stepO pr c96_0 (St96_0 a0) (Ex96_0 a0) s0 r:=by
 unfold s96_0 at h
 rcases cond_split h with ⟨h17,h⟩ | ⟨h17,h⟩
 ·obtain ⟨v18,h19,h⟩:=obind_some h
  rcases cond_split h with ⟨h20,h⟩ | ⟨h20,h⟩
  ·cases h
   exact stepO_out (by simp only [go_sem,seval,c96_0,St96_0,h17,strIdx_O h19,h20,Ex96_0] <;> rfl)
  ·rcases cond_split h with ⟨h21,h⟩ | ⟨h21,h⟩
   ·cases h
    exact stepO_out (by simp only [go_sem,seval,c96_0,St96_0,h17,strIdx_O h19,h20,h21,Ex96_0] <;> rfl)
   ·cases h
    exact stepO_in (st':=⟨[(0,.str a0,false),(4,.int .i64 (wrapF .i64 ((wrapF .i64 (10 * s0.1)) + (wrapF .i64 (wrapF .u8 ((v18.toNat:Int) - 48))))),false),(5,.int .i64 (wrapF .i64 (s0.2 + 1)),false)],[]⟩) (by simp only [go_sem,seval,c96_0,St96_0,h17,strIdx_O h19,h20,h21] <;> rfl) (gc_same (Nat.le_refl _))
 ·cases h
  exact stepO_out (by simp only [go_sem,seval,c96_0,St96_0,h17,Ex96_0] <;> rfl)
theorem l96_0 (a0:List UInt8) {s0:Int × Int} {d} (h:itO (s96_0 a0) s0=some d):X pr (.loop c96_0) (St96_0 a0 s0)=some (Ex96_0 a0 d):=X_itO (b96_0 a0) (fun d=>by rcases d with d|d <;> (intro hh; cases hh)) h
noncomputable def s96_0b (a0:List UInt8) (s0:Int × Int):Option ((Int × Int) ⊕ (Unit ⊕ (Int × Int))):=
 cond (decide (s0.2 < (a0.length:Int)))
  (obind (idxO a0 s0.2) fun v37=>
  cond (decide ((v37.toNat:Int) < 48))
   (some (.inr (.inl ())))
   (cond (decide (57 < (v37.toNat:Int)))
    (some (.inr (.inl ())))
    (some (.inl (wrapF .i64 ((wrapF .i64 (10 * s0.1)) + (wrapF .i64 (wrapF .u8 ((v37.toNat:Int) - 48)))),wrapF .i64 (s0.2 + 1))))))
  (some (.inr (.inr (s0.1,s0.2))))
def St96_0b (a0:List UInt8) (s0:Int × Int):ASt:=⟨[(0,.str a0,false),(4,.int .i64 s0.1,false),(5,.int .i64 s0.2,false)],[]⟩
def Ex96_0b (a0:List UInt8):Unit ⊕ (Int × Int)→AExit × ASt
 | .inl d=>(.ret,⟨[(2,.int .i64 0,false),(3,.bool false,false)],[]⟩)
 | .inr d=>(.exit 0,⟨[(0,.str a0,false),(4,.int .i64 d.1,false),(5,.int .i64 d.2,false),(27,.bool false,false)],[]⟩)
theorem b96_0b (a0:List UInt8) (s0:Int × Int) (r) (h:s96_0b a0 s0=some r):stepO pr c96_0 (St96_0b a0) (Ex96_0b a0) s0 r:=by
 unfold s96_0b at h
 rcases cond_split h with ⟨h36,h⟩ | ⟨h36,h⟩
 ·obtain ⟨v37,h38,h⟩:=obind_some h
  rcases cond_split h with ⟨h39,h⟩ | ⟨h39,h⟩
  ·cases h
   exact stepO_out (by simp only [go_sem,seval,c96_0,St96_0b,h36,strIdx_O h38,h39,Ex96_0b] <;> rfl)
  ·rcases cond_split h with ⟨h40,h⟩ | ⟨h40,h⟩
   ·cases h
    exact stepO_out (by simp only [go_sem,seval,c96_0,St96_0b,h36,strIdx_O h38,h39,h40,Ex96_0b] <;> rfl)
   ·cases h
    exact stepO_in (st':=⟨[(0,.str a0,false),(4,.int .i64 (wrapF .i64 ((wrapF .i64 (10 * s0.1)) + (wrapF .i64 (wrapF .u8 ((v37.toNat:Int) - 48))))),false),(5,.int .i64 (wrapF .i64 (s0.2 + 1)),false)],[]⟩) (by simp only [go_sem,seval,c96_0,St96_0b,h36,strIdx_O h38,h39,h40] <;> rfl) (gc_same (Nat.le_refl _))
 ·cases h
  exact stepO_out (by simp only [go_sem,seval,c96_0,St96_0b,h36,Ex96_0b] <;> rfl)
theorem l96_0b (a0:List UInt8) {s0:Int × Int} {d} (h:itO (s96_0b a0) s0=some d):X pr (.loop c96_0) (St96_0b a0 s0)=some (Ex96_0b a0 d):=X_itO (b96_0b a0) (fun d=>by rcases d with d|d <;> (intro hh; cases hh)) h
noncomputable def f96 (a0:List UInt8):Option (Int × Bool):=
 cond (decide ((a0.length:Int)=0))
  (some (0,false))
  (cond (decide (9 < (a0.length:Int)))
   (some (0,false))
   (cond (decide (1 < (a0.length:Int)))
    (obind (idxO a0 0) fun v4=>
    cond (decide ((v4.toNat:Int)=48))
     (some (0,false))
     (obind (itO (s96_0 a0) (0,0)) fun d22=>match d22 with
      | .inl d24=>
       some (0,false)
      | .inr d25=>
       some (d25.1,true)))
    (obind (itO (s96_0b a0) (0,0)) fun d41=>match d41 with
     | .inl d43=>
      some (0,false)
     | .inr d44=>
      some (d44.1,true))))
theorem W96 {a0:List UInt8} {r} (h:f96 a0=some r):callIso pr (X pr) 96 [.str a0]=some (.tup [.int .i64 r.1,.bool r.2],false):=by
 unfold f96 at h
 rcases cond_split h with ⟨h1,h⟩ | ⟨h1,h⟩
 ·have hr:(0,false)=r:=Option.some.inj h
  subst hr
  have this:∃ hh,callFn pr (X pr) 96 [.str a0] []=some (.tup [.int .i64 0,.bool false],false,hh):=by
   rw [callFn_at (show pr.fns 96=some c96 from rfl) (by simp)]
   simp only [go_sem,seval,c96,h1]
   exact ⟨_,rfl⟩
  obtain ⟨hh,this⟩:=this
  exact callIso_of rfl this (by first | rfl | simp only [go_sem,seval]) (by first | rfl | simp only [go_sem,seval])
 ·rcases cond_split h with ⟨h2,h⟩ | ⟨h2,h⟩
  ·have hr:(0,false)=r:=Option.some.inj h
   subst hr
   have this:∃ hh,callFn pr (X pr) 96 [.str a0] []=some (.tup [.int .i64 0,.bool false],false,hh):=by
    rw [callFn_at (show pr.fns 96=some c96 from rfl) (by simp)]
    simp only [go_sem,seval,c96,h1,h2]
    exact ⟨_,rfl⟩
   obtain ⟨hh,this⟩:=this
   exact callIso_of rfl this (by first | rfl | simp only [go_sem,seval]) (by first | rfl | simp only [go_sem,seval])
  ·rcases cond_split h with ⟨h3,h⟩ | ⟨h3,h⟩
   ·obtain ⟨v4,h5,h⟩:=obind_some h
    rcases cond_split h with ⟨h6,h⟩ | ⟨h6,h⟩
    ·have hr:(0,false)=r:=Option.some.inj h
     subst hr
     have this:∃ hh,callFn pr (X pr) 96 [.str a0] []=some (.tup [.int .i64 0,.bool false],false,hh):=by
      rw [callFn_at (show pr.fns 96=some c96 from rfl) (by simp)]
      simp only [go_sem,seval,c96,h1,h2,h3,strIdx_O h5,h6]
      exact ⟨_,rfl⟩
     obtain ⟨hh,this⟩:=this
     exact callIso_of rfl this (by first | rfl | simp only [go_sem,seval]) (by first | rfl | simp only [go_sem,seval])
    ·obtain ⟨d22,h23,h⟩:=obind_some h
     rcases d22 with d24 | d25
     ·have wh23:X pr (.loop c96_0) ⟨[(0,.str a0,false),(4,.int .i64 0,false),(5,.int .i64 0,false)],[]⟩=some (.ret,⟨[(2,.int .i64 0,false),(3,.bool false,false)],[]⟩):=l96_0 a0 h23
      have hr:(0,false)=r:=Option.some.inj h
      subst hr
      have this:∃ hh,callFn pr (X pr) 96 [.str a0] []=some (.tup [.int .i64 0,.bool false],false,hh):=by
       rw [callFn_at (show pr.fns 96=some c96 from rfl) (by simp)]
       simp only [go_sem,seval,c96,h1,h2,h3,strIdx_O h5,h6,wh23]
       exact ⟨_,rfl⟩
      obtain ⟨hh,this⟩:=this
      exact callIso_of rfl this (by first | rfl | simp only [go_sem,seval]) (by first | rfl | simp only [go_sem,seval])
     ·have wh23:X pr (.loop c96_0) ⟨[(0,.str a0,false),(4,.int .i64 0,false),(5,.int .i64 0,false)],[]⟩=some (.exit 0,⟨[(0,.str a0,false),(4,.int .i64 d25.1,false),(5,.int .i64 d25.2,false),(27,.bool false,false)],[]⟩):=l96_0 a0 h23
      have hr:(d25.1,true)=r:=Option.some.inj h
      subst hr
      have this:∃ hh,callFn pr (X pr) 96 [.str a0] []=some (.tup [.int .i64 d25.1,.bool true],false,hh):=by
       rw [callFn_at (show pr.fns 96=some c96 from rfl) (by simp)]
       simp only [go_sem,seval,c96,h1,h2,h3,strIdx_O h5,h6,wh23]
       exact ⟨_,rfl⟩
      obtain ⟨hh,this⟩:=this
      exact callIso_of rfl this (by first | rfl | simp only [go_sem,seval]) (by first | rfl | simp only [go_sem,seval])
   ·obtain ⟨d41,h42,h⟩:=obind_some h
    rcases d41 with d43 | d44
    ·have wh42:X pr (.loop c96_0) ⟨[(0,.str a0,false),(4,.int .i64 0,false),(5,.int .i64 0,false)],[]⟩=some (.ret,⟨[(2,.int .i64 0,false),(3,.bool false,false)],[]⟩):=l96_0b a0 h42
     have hr:(0,false)=r:=Option.some.inj h
     subst hr
     have this:∃ hh,callFn pr (X pr) 96 [.str a0] []=some (.tup [.int .i64 0,.bool false],false,hh):=by
      rw [callFn_at (show pr.fns 96=some c96 from rfl) (by simp)]
      simp only [go_sem,seval,c96,h1,h2,h3,wh42]
      exact ⟨_,rfl⟩
     obtain ⟨hh,this⟩:=this
     exact callIso_of rfl this (by first | rfl | simp only [go_sem,seval]) (by first | rfl | simp only [go_sem,seval])
    ·have wh42:X pr (.loop c96_0) ⟨[(0,.str a0,false),(4,.int .i64 0,false),(5,.int .i64 0,false)],[]⟩=some (.exit 0,⟨[(0,.str a0,false),(4,.int .i64 d44.1,false),(5,.int .i64 d44.2,false),(27,.bool false,false)],[]⟩):=l96_0b a0 h42
     have hr:(d44.1,true)=r:=Option.some.inj h
     subst hr
     have this:∃ hh,callFn pr (X pr) 96 [.str a0] []=some (.tup [.int .i64 d44.1,.bool true],false,hh):=by
      rw [callFn_at (show pr.fns 96=some c96 from rfl) (by simp)]
      simp only [go_sem,seval,c96,h1,h2,h3,wh42]
      exact ⟨_,rfl⟩
     obtain ⟨hh,this⟩:=this
     exact callIso_of rfl this (by first | rfl | simp only [go_sem,seval]) (by first | rfl | simp only [go_sem,seval])
noncomputable def f50 (a0:List UInt8):Option (Int × Bool):=
 cond (decide (0 < (a0.length:Int)))
  (obind (idxO a0 0) fun v2=>
  cond (decide ((v2.toNat:Int)=45))
   (obind (cutO a0 (some 1) none) fun v5=>
   obind (f96 v5) fun v7=>
   cond v7.2
    (some (wrapF .i64 (0 - v7.1),decide (0 < v7.1)))
    (some (wrapF .i64 (0 - v7.1),false)))
   (obind (f96 a0) fun v10=>
   some (v10.1,v10.2)))
  (obind (f96 a0) fun v12=>
  some (v12.1,v12.2))
theorem W50 {a0:List UInt8} {r} (h:f50 a0=some r):callIso pr (X pr) 50 [.str a0]=some (.tup [.int .i64 r.1,.bool r.2],false):=by
 unfold f50 at h
 rcases cond_split h with ⟨h1,h⟩ | ⟨h1,h⟩
 ·obtain ⟨v2,h3,h⟩:=obind_some h
  rcases cond_split h with ⟨h4,h⟩ | ⟨h4,h⟩
  ·obtain ⟨v5,h6,h⟩:=obind_some h
   obtain ⟨v7,h8,h⟩:=obind_some h
   have wh8:callIso pr (X pr) 96 [.str v5]=some (.tup [.int .i64 v7.1,.bool v7.2],false):=W96 h8
   rcases cond_split h with ⟨h9,h⟩ | ⟨h9,h⟩
   ·have hr:(wrapF .i64 (0 - v7.1),decide (0 < v7.1))=r:=Option.some.inj h
    subst hr
    have this:∃ hh,callFn pr (X pr) 50 [.str a0] []=some (.tup [.int .i64 (wrapF .i64 (0 - v7.1)),.bool (decide (0 < v7.1))],false,hh):=by
     rw [callFn_at (show pr.fns 50=some c50 from rfl) (by simp)]
     simp only [go_sem,seval,c50,h1,strIdx_O h3,h4,strCut_l h6,wh8,h9]
     exact ⟨_,rfl⟩
    obtain ⟨hh,this⟩:=this
    exact callIso_of rfl this (by first | rfl | simp only [go_sem,seval]) (by first | rfl | simp only [go_sem,seval])
   ·have hr:(wrapF .i64 (0 - v7.1),false)=r:=Option.some.inj h
    subst hr
    have this:∃ hh,callFn pr (X pr) 50 [.str a0] []=some (.tup [.int .i64 (wrapF .i64 (0 - v7.1)),.bool false],false,hh):=by
     rw [callFn_at (show pr.fns 50=some c50 from rfl) (by simp)]
     simp only [go_sem,seval,c50,h1,strIdx_O h3,h4,strCut_l h6,wh8,h9]
     exact ⟨_,rfl⟩
    obtain ⟨hh,this⟩:=this
    exact callIso_of rfl this (by first | rfl | simp only [go_sem,seval]) (by first | rfl | simp only [go_sem,seval])
  ·obtain ⟨v10,h11,h⟩:=obind_some h
   have wh11:callIso pr (X pr) 96 [.str a0]=some (.tup [.int .i64 v10.1,.bool v10.2],false):=W96 h11
   have hr:(v10.1,v10.2)=r:=Option.some.inj h
   subst hr
   have this:∃ hh,callFn pr (X pr) 50 [.str a0] []=some (.tup [.int .i64 v10.1,.bool v10.2],false,hh):=by
    rw [callFn_at (show pr.fns 50=some c50 from rfl) (by simp)]
    simp only [go_sem,seval,c50,h1,strIdx_O h3,h4,wh11]
    exact ⟨_,rfl⟩
   obtain ⟨hh,this⟩:=this
   exact callIso_of rfl this (by first | rfl | simp only [go_sem,seval]) (by first | rfl | simp only [go_sem,seval])
 ·obtain ⟨v12,h13,h⟩:=obind_some h
  have wh13:callIso pr (X pr) 96 [.str a0]=some (.tup [.int .i64 v12.1,.bool v12.2],false):=W96 h13
  have hr:(v12.1,v12.2)=r:=Option.some.inj h
  subst hr
  have this:∃ hh,callFn pr (X pr) 50 [.str a0] []=some (.tup [.int .i64 v12.1,.bool v12.2],false,hh):=by
   rw [callFn_at (show pr.fns 50=some c50 from rfl) (by simp)]
   simp only [go_sem,seval,c50,h1,wh13]
   exact ⟨_,rfl⟩
  obtain ⟨hh,this⟩:=this
  exact callIso_of rfl this (by first | rfl | simp only [go_sem,seval]) (by first | rfl | simp only [go_sem,seval])
noncomputable def s15_0 (a0:List UInt8) (a1:Int) (s0:(Option (List (List UInt8))) × Int × Int × Bool):Option (((Option (List (List UInt8))) × Int × Int × Bool) ⊕ (((Option (List (List UInt8))) × Bool × Int × Int))):=
 cond (decide (s0.2.2.1 < (a0.length:Int)))
  (obind (idxO a0 s0.2.2.1) fun v20=>
  cond (decide ((v20.toNat:Int)=a1))
   (obind (cutO a0 (some s0.2.1) (some s0.2.2.1)) fun v23=>
   cond s0.2.2.2
    (obind (apO s0.1 [v23]) fun v26=>
    some (.inl (v26,wrapF .i64 (s0.2.2.1 + 1),wrapF .i64 (s0.2.2.1 + 1),true)))
    (cond s0.1.isNone
     (obind (apO s0.1 [v23]) fun v29=>
     some (.inl (v29,wrapF .i64 (s0.2.2.1 + 1),wrapF .i64 (s0.2.2.1 + 1),true)))
     (none)))
   (some (.inl (s0.1,s0.2.1,wrapF .i64 (s0.2.2.1 + 1),s0.2.2.2))))
  (some (.inr (s0.1,s0.2.2.2,s0.2.1,s0.2.2.1)))
def St15_0 (a0:List UInt8) (a1:Int) (s0:(Option (List (List UInt8))) × Int × Int × Bool):ASt:=⟨[(0,.str a0,false),(1,.int .u8 a1,false),(5,sl 1 vstr s0.1,s0.2.2.2),(6,.int .i64 s0.2.1,false),(7,.int .i64 s0.2.2.1,false)],[]⟩
def Ex15_0 (a0:List UInt8) (a1:Int) (d:((Option (List (List UInt8))) × Bool × Int × Int)):AExit × ASt:=(.exit 0,⟨[(0,.str a0,false),(1,.int .u8 a1,false),(5,sl 1 vstr d.1,d.2.1),(6,.int .i64 d.2.2.1,false),(7,.int .i64 d.2.2.2,false),(11,.bool false,false)],[]⟩)
theorem b15_0 (a0:List UInt8) (a1:Int) (s0:(Option (List (List UInt8))) × Int × Int × Bool) (r) (h:s15_0 a0 a1 s0=some r):stepO pr c15_0 (St15_0 a0 a1) (Ex15_0 a0 a1) s0 r:=by
 unfold s15_0 at h
 rcases cond_split h with ⟨h19,h⟩ | ⟨h19,h⟩
 ·obtain ⟨v20,h21,h⟩:=obind_some h
  rcases cond_split h with ⟨h22,h⟩ | ⟨h22,h⟩
  ·obtain ⟨v23,h24,h⟩:=obind_some h
   rcases cond_split h with ⟨h25,h⟩ | ⟨h25,h⟩
   ·obtain ⟨v26,h27,h⟩:=obind_some h
    cases h
    exact stepO_in (st':=⟨[(0,.str a0,false),(1,.int .u8 a1,false),(5,sl 1 vstr v26,true),(6,.int .i64 (wrapF .i64 (s0.2.2.1 + 1)),false),(7,.int .i64 (wrapF .i64 (s0.2.2.1 + 1)),false)],[]⟩) (by simp only [go_sem,seval,c15_0,St15_0,h19,strIdx_O h21,h22,strCut_lh h24,h25,app_vstr_O h27] <;> rfl) (gc_same (Nat.le_refl _))
   ·rcases cond_split h with ⟨h28,h⟩ | ⟨h28,h⟩
    ·obtain ⟨v29,h30,h⟩:=obind_some h
     cases h
     exact stepO_in (st':=⟨[(0,.str a0,false),(1,.int .u8 a1,false),(5,sl 1 vstr v29,true),(6,.int .i64 (wrapF .i64 (s0.2.2.1 + 1)),false),(7,.int .i64 (wrapF .i64 (s0.2.2.1 + 1)),false)],[]⟩) (by simp only [go_sem,seval,c15_0,St15_0,h19,strIdx_O h21,h22,strCut_lh h24,h25,h28,app_vstr_N h30 h28] <;> rfl) (gc_same (Nat.le_refl _))
    ·cases h
  ·cases h
   exact stepO_in (st':=⟨[(0,.str a0,false),(1,.int .u8 a1,false),(5,sl 1 vstr s0.1,s0.2.2.2),(6,.int .i64 s0.2.1,false),(7,.int .i64 (wrapF .i64 (s0.2.2.1 + 1)),false)],[]⟩) (by simp only [go_sem,seval,c15_0,St15_0,h19,strIdx_O h21,h22] <;> rfl) (gc_same (Nat.le_refl _))
 ·cases h
  exact stepO_out (by simp only [go_sem,seval,c15_0,St15_0,h19,Ex15_0] <;> rfl)
theorem l15_0 (a0:List UInt8) (a1:Int) {s0:(Option (List (List UInt8))) × Int × Int × Bool} {d} (h:itO (s15_0 a0 a1) s0=some d):X pr (.loop c15_0) (St15_0 a0 a1 s0)=some (Ex15_0 a0 a1 d):=X_itO (b15_0 a0 a1) (fun d hh=>by cases hh) h
noncomputable def f15 (a0:List UInt8) (a1:Int):Option (Option (List (List UInt8))):=
 obind (itO (s15_0 a0 a1) (none,0,0,false)) fun d31=>
 obind (cutO a0 (some d31.2.2.1) none) fun v33=>
 cond d31.2.1
  (obind (apO d31.1 [v33]) fun v36=>
  some v36)
  (cond d31.1.isNone
   (obind (apO d31.1 [v33]) fun v39=>
   some v39)
   (none))
theorem W15 {a0:List UInt8} {a1:Int} {r} (h:f15 a0 a1=some r):callIso pr (X pr) 15 [.str a0,.int .u8 a1]=some (sl 1 vstr r,true):=by
 unfold f15 at h
 obtain ⟨d31,h32,h⟩:=obind_some h
 have wh32:X pr (.loop c15_0) ⟨[(0,.str a0,false),(1,.int .u8 a1,false),(5,.list true 0 [],false),(6,.int .i64 0,false),(7,.int .i64 0,false)],[]⟩=some (.exit 0,⟨[(0,.str a0,false),(1,.int .u8 a1,false),(5,sl 1 vstr d31.1,d31.2.1),(6,.int .i64 d31.2.2.1,false),(7,.int .i64 d31.2.2.2,false),(11,.bool false,false)],[]⟩):=l15_0 a0 a1 h32
 obtain ⟨v33,h34,h⟩:=obind_some h
 rcases cond_split h with ⟨h35,h⟩ | ⟨h35,h⟩
 ·obtain ⟨v36,h37,h⟩:=obind_some h
  have hr:v36=r:=Option.some.inj h
  subst hr
  have this:∃ hh,callFn pr (X pr) 15 [.str a0,.int .u8 a1] []=some (sl 1 vstr v36,true,hh):=by
   rw [callFn_at (show pr.fns 15=some c15 from rfl) (by simp)]
   simp only [go_sem,seval,c15,wh32,strCut_l h34,h35,app_vstr_O h37]
   exact ⟨_,rfl⟩
  obtain ⟨hh,this⟩:=this
  exact callIso_of_dyn rfl this (by first | rfl | simp only [go_sem,seval]) (by first | rfl | simp only [go_sem,seval]) (by first | rfl | simp only [go_sem,seval])
 ·rcases cond_split h with ⟨h38,h⟩ | ⟨h38,h⟩
  ·obtain ⟨v39,h40,h⟩:=obind_some h
   have hr:v39=r:=Option.some.inj h
   subst hr
   have this:∃ hh,callFn pr (X pr) 15 [.str a0,.int .u8 a1] []=some (sl 1 vstr v39,true,hh):=by
    rw [callFn_at (show pr.fns 15=some c15 from rfl) (by simp)]
    simp only [go_sem,seval,c15,wh32,strCut_l h34,h35,h38,app_vstr_N h40 h38]
    exact ⟨_,rfl⟩
   obtain ⟨hh,this⟩:=this
   exact callIso_of_dyn rfl this (by first | rfl | simp only [go_sem,seval]) (by first | rfl | simp only [go_sem,seval]) (by first | rfl | simp only [go_sem,seval])
  ·cases h
end Go.Z
