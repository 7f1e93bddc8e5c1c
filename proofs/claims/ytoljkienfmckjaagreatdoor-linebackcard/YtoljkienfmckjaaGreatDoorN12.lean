/-
  LineTexts: own copies: functions that mirror the runs, and the runs (printed by walk.py; seat .ZD).
-/
import Derived.Test.YtoljkienfmckjaaGreatDoorR1
import Derived.Test.YtoljkienfmckjaaGreatDoorG0m
import Derived.Test.YtoljkienfmckjaaGreatDoorN0
import Derived.Test.YtoljkienfmckjaaGreatDoorZB
import Derived.Test.YtoljkienfmckjaaGreatDoorN6
import Derived.Test.YtoljkienfmckjaaGreatDoorN4
set_option linter.unusedVariables false
set_option linter.unusedSimpArgs false
set_option maxRecDepth 100000
set_option maxHeartbeats 4000000
namespace Go.Z
open Go Go.Abs
noncomputable def s13_0 (a0:Option (List GUnit)) (a1:Option (List GUnit)) (s0:Int):Option (Int ⊕ (Unit ⊕ Int)):=
 cond (decide (s0 < ((a0.getD []).length:Int)))
  (obind (idxO (a0.getD []) s0) fun v21=>
  obind (idxO (a1.getD []) s0) fun v23=>
  cond (decide (v21.serial=v23.serial))
   (obind (E23 v21.values v23.values) fun v26=>
   cond v26
    (some (.inl (wrapF .i64 (s0 + 1))))
    (some (.inr (.inl ()))))
   (some (.inr (.inl ()))))
  (some (.inr (.inr s0)))
def St13_0 (a0:Option (List GUnit)) (a1:Option (List GUnit)) (s0:Int):ASt:=⟨[(0,sl 2 vunit a0,false),(1,sl 2 vunit a1,false),(5,.int .i64 s0,false)],[]⟩
def Ex13_0 (a0:Option (List GUnit)) (a1:Option (List GUnit)):Unit ⊕ Int→AExit × ASt
 | .inl d=>(.ret,⟨[(4,.bool false,false)],[]⟩)
 | .inr d=>(.exit 0,⟨[(0,sl 2 vunit a0,false),(1,sl 2 vunit a1,false),(5,.int .i64 d,false),(14,.bool false,false)],[]⟩)
theorem b13_0 (a0:Option (List GUnit)) (a1:Option (List GUnit)) (s0:Int) (r) (h:s13_0 a0 a1 s0=some r):stepO pr c13_0 (St13_0 a0 a1) (Ex13_0 a0 a1) s0 r:=by
 unfold s13_0 at h
 rcases cond_split h with ⟨h20,h⟩ | ⟨h20,h⟩
 ·obtain ⟨v21,h22,h⟩:=obind_some h
  obtain ⟨v23,h24,h⟩:=obind_some h
  rcases cond_split h with ⟨h25,h⟩ | ⟨h25,h⟩
  ·obtain ⟨v26,h27,h⟩:=obind_some h
   have wh27:callIso pr (X pr) 23 [sl 1 vint v21.values,sl 1 vint v23.values]=some (.bool v26,false):=WE23 h27
   rcases cond_split h with ⟨h28,h⟩ | ⟨h28,h⟩
   ·cases h
    exact stepO_in (st':=⟨[(0,sl 2 vunit a0,false),(1,sl 2 vunit a1,false),(5,.int .i64 (wrapF .i64 (s0 + 1)),false)],[]⟩) (by simp only [go_sem,seval,c13_0,St13_0,h20,idxR_O h22,idxR_O h24,h25,wh27,h28] <;> rfl) (gc_same (Nat.le_refl _))
   ·cases h
    exact stepO_out (by simp only [go_sem,seval,c13_0,St13_0,h20,idxR_O h22,idxR_O h24,h25,wh27,h28,Ex13_0] <;> rfl)
  ·cases h
   exact stepO_out (by simp only [go_sem,seval,c13_0,St13_0,h20,idxR_O h22,idxR_O h24,h25,Ex13_0] <;> rfl)
 ·cases h
  exact stepO_out (by simp only [go_sem,seval,c13_0,St13_0,h20,Ex13_0] <;> rfl)
theorem l13_0 (a0:Option (List GUnit)) (a1:Option (List GUnit)) {s0:Int} {d} (h:itO (s13_0 a0 a1) s0=some d):X pr (.loop c13_0) (St13_0 a0 a1 s0)=some (Ex13_0 a0 a1 d):=X_itO (b13_0 a0 a1) (fun d=>by rcases d with d|d <;> (intro hh; cases hh)) h
noncomputable def f13 (a0:Option (List GUnit)) (a1:Option (List GUnit)):Option Bool:=
 cond (decide (((a0.getD []).length:Int)=((a1.getD []).length:Int)))
  (obind (itO (s13_0 a0 a1) 0) fun d29=>match d29 with
   | .inl d31=>
    some false
   | .inr d32=>
    some true)
  (some false)
theorem W13 {a0:Option (List GUnit)} {a1:Option (List GUnit)} {r} (h:f13 a0 a1=some r):callIso pr (X pr) 13 [sl 2 vunit a0,sl 2 vunit a1]=some (.bool r,false):=by
 unfold f13 at h
 rcases cond_split h with ⟨h1,h⟩ | ⟨h1,h⟩
 ·obtain ⟨d29,h30,h⟩:=obind_some h
  rcases d29 with d31 | d32
  ·have wh30:X pr (.loop c13_0) ⟨[(0,sl 2 vunit a0,false),(1,sl 2 vunit a1,false),(5,.int .i64 0,false)],[]⟩=some (.ret,⟨[(4,.bool false,false)],[]⟩):=l13_0 a0 a1 h30
   have hr:false=r:=Option.some.inj h
   subst hr
   have this:∃ hh,callFn pr (X pr) 13 [sl 2 vunit a0,sl 2 vunit a1] []=some (.bool false,false,hh):=by
    rw [callFn_at (show pr.fns 13=some c13 from rfl) (by simp)]
    simp only [go_sem,seval,c13,h1,wh30]
    exact ⟨_,rfl⟩
   obtain ⟨hh,this⟩:=this
   exact callIso_of rfl this (by first | rfl | simp only [go_sem,seval]) (by first | rfl | simp only [go_sem,seval])
  ·have wh30:X pr (.loop c13_0) ⟨[(0,sl 2 vunit a0,false),(1,sl 2 vunit a1,false),(5,.int .i64 0,false)],[]⟩=some (.exit 0,⟨[(0,sl 2 vunit a0,false),(1,sl 2 vunit a1,false),(5,.int .i64 d32,false),(14,.bool false,false)],[]⟩):=l13_0 a0 a1 h30
   have hr:true=r:=Option.some.inj h
   subst hr
   have this:∃ hh,callFn pr (X pr) 13 [sl 2 vunit a0,sl 2 vunit a1] []=some (.bool true,false,hh):=by
    rw [callFn_at (show pr.fns 13=some c13 from rfl) (by simp)]
    simp only [go_sem,seval,c13,h1,wh30]
    exact ⟨_,rfl⟩
   obtain ⟨hh,this⟩:=this
   exact callIso_of rfl this (by first | rfl | simp only [go_sem,seval]) (by first | rfl | simp only [go_sem,seval])
 ·have hr:false=r:=Option.some.inj h
  subst hr
  have this:∃ hh,callFn pr (X pr) 13 [sl 2 vunit a0,sl 2 vunit a1] []=some (.bool false,false,hh):=by
   rw [callFn_at (show pr.fns 13=some c13 from rfl) (by simp)]
   simp only [go_sem,seval,c13,h1]
   exact ⟨_,rfl⟩
  obtain ⟨hh,this⟩:=this
  exact callIso_of rfl this (by first | rfl | simp only [go_sem,seval]) (by first | rfl | simp only [go_sem,seval])
noncomputable def s14_0 (a0:Option (List GUnit)) (s0:(Option (List GUnit)) × Int × Bool):Option (((Option (List GUnit)) × Int × Bool) ⊕ (((Option (List GUnit)) × Bool × Int))):=
 cond (decide (s0.2.1 < ((a0.getD []).length:Int)))
  (obind (idxO (a0.getD []) s0.2.1) fun v14=>
  cond s0.2.2
   (obind (apO s0.1 [v14]) fun v17=>
   some (.inl (v17,wrapF .i64 (s0.2.1 + 1),true)))
   (cond s0.1.isNone
    (obind (apO s0.1 [v14]) fun v20=>
    some (.inl (v20,wrapF .i64 (s0.2.1 + 1),true)))
    (none)))
  (some (.inr (s0.1,s0.2.2,s0.2.1)))
def St14_0 (a0:Option (List GUnit)) (s0:(Option (List GUnit)) × Int × Bool):ASt:=⟨[(3,sl 2 vunit s0.1,s0.2.2),(6,sl 2 vunit a0,false),(7,.int .i64 ((a0.getD []).length:Int),false),(8,.int .i64 s0.2.1,false)],[]⟩
def Ex14_0 (a0:Option (List GUnit)) (d:((Option (List GUnit)) × Bool × Int)):AExit × ASt:=(.exit 0,⟨[(3,sl 2 vunit d.1,d.2.1),(6,sl 2 vunit a0,false),(7,.int .i64 ((a0.getD []).length:Int),false),(8,.int .i64 d.2.2,false),(9,.bool false,false)],[]⟩)
theorem b14_0 (a0:Option (List GUnit)) (s0:(Option (List GUnit)) × Int × Bool) (r) (h:s14_0 a0 s0=some r):stepO pr c14_0 (St14_0 a0) (Ex14_0 a0) s0 r:=by
 unfold s14_0 at h
 rcases cond_split h with ⟨h13,h⟩ | ⟨h13,h⟩
 ·obtain ⟨v14,h15,h⟩:=obind_some h
  rcases cond_split h with ⟨h16,h⟩ | ⟨h16,h⟩
  ·obtain ⟨v17,h18,h⟩:=obind_some h
   cases h
   exact stepO_in (st':=⟨[(3,sl 2 vunit v17,true),(6,sl 2 vunit a0,false),(7,.int .i64 ((a0.getD []).length:Int),false),(8,.int .i64 (wrapF .i64 (s0.2.1 + 1)),false)],[]++[.cells [(.str v14.serial,false),(sl 1 vint v14.values,false)]]⟩) (by simp only [go_sem,seval,c14_0,St14_0,h13,idxR_O h15,h16,app_vunit_O h18] <;> rfl) (gc_over rfl rfl (by first | simp only [go_sem,seval,St14_0] | rfl) (by first | simp only [go_sem,seval,St14_0] | rfl))
  ·rcases cond_split h with ⟨h19,h⟩ | ⟨h19,h⟩
   ·obtain ⟨v20,h21,h⟩:=obind_some h
    cases h
    exact stepO_in (st':=⟨[(3,sl 2 vunit v20,true),(6,sl 2 vunit a0,false),(7,.int .i64 ((a0.getD []).length:Int),false),(8,.int .i64 (wrapF .i64 (s0.2.1 + 1)),false)],[]++[.cells [(.str v14.serial,false),(sl 1 vint v14.values,false)]]⟩) (by simp only [go_sem,seval,c14_0,St14_0,h13,idxR_O h15,h16,h19,app_vunit_N h21 h19] <;> rfl) (gc_over rfl rfl (by first | simp only [go_sem,seval,St14_0] | rfl) (by first | simp only [go_sem,seval,St14_0] | rfl))
   ·cases h
 ·cases h
  exact stepO_out (by simp only [go_sem,seval,c14_0,St14_0,h13,Ex14_0] <;> rfl)
theorem l14_0 (a0:Option (List GUnit)) {s0:(Option (List GUnit)) × Int × Bool} {d} (h:itO (s14_0 a0) s0=some d):X pr (.loop c14_0) (St14_0 a0 s0)=some (Ex14_0 a0 d):=X_itO (b14_0 a0) (fun d hh=>by cases hh) h
noncomputable def f14 (a0:Option (List GUnit)):Option ((Option (List GUnit)) × Bool):=
 obind (itO (s14_0 a0) (none,0,false)) fun d22=>
 some (d22.1,d22.2.1)
theorem W14 {a0:Option (List GUnit)} {r} (h:f14 a0=some r):callIso pr (X pr) 14 [sl 2 vunit a0]=some (sl 2 vunit r.1,r.2):=by
 unfold f14 at h
 obtain ⟨d22,h23,h⟩:=obind_some h
 have wh23:X pr (.loop c14_0) ⟨[(3,.list true 0 [],false),(6,sl 2 vunit a0,false),(7,.int .i64 ((a0.getD []).length:Int),false),(8,.int .i64 0,false)],[]⟩=some (.exit 0,⟨[(3,sl 2 vunit d22.1,d22.2.1),(6,sl 2 vunit a0,false),(7,.int .i64 ((a0.getD []).length:Int),false),(8,.int .i64 d22.2.2,false),(9,.bool false,false)],[]⟩):=l14_0 a0 h23
 have hr:(d22.1,d22.2.1)=r:=Option.some.inj h
 subst hr
 have this:∃ hh,callFn pr (X pr) 14 [sl 2 vunit a0] []=some (sl 2 vunit d22.1,d22.2.1,hh):=by
  rw [callFn_at (show pr.fns 14=some c14 from rfl) (by simp)]
  simp only [go_sem,seval,c14,wh23]
  exact ⟨_,rfl⟩
 obtain ⟨hh,this⟩:=this
 exact callIso_of_dyn rfl this (by first | rfl | simp only [go_sem,seval]) (by first | rfl | simp only [go_sem,seval]) (by first | rfl | simp only [go_sem,seval])
end Go.Z
/-
 What the laws LineTexts and LineBack call,as calls of the program with all in it.
-/
namespace Go.Z
open Go Go.Abs
theorem liftE {k:Nat} (hd:opD k=false) (hm:moreD k=none) (ho:opE k=false) {args:List AVal} {v:AVal} {o:Bool} (h:callIso pr (X pr) k args=some (v,o)) (hv:below 0 v=true):callIso prE (X prE) k args=some (v,o):=atE ho (atD hd hm h hv) hv
theorem Q5 {r} (h:E5=some r):callIso prE (X prE) 5 []=some (.bool r,false):=liftE rfl rfl rfl (WE5 h) rfl
theorem Q8 {o r} (h:E8 o=some r):callIso prE (X prE) 8 [sl 2 vunit o]=some (sl 2 vunit r,accO (o.getD [])):=liftE rfl rfl rfl (WE8 h) below_units
theorem Q10 {o r} (h:E10w o=some r):callIso prE (X prE) 10 [sl 2 vunit o]=some (.int .i64 r,false):=liftE rfl rfl rfl (WE10w h) rfl
theorem Q13 {a0:Option (List GUnit)} {a1:Option (List GUnit)} {r} (h:f13 a0 a1=some r):callIso prE (X prE) 13 [sl 2 vunit a0,sl 2 vunit a1]=some (.bool r,false):=liftE rfl rfl rfl (W13 h) rfl
theorem Q14 {a0:Option (List GUnit)} {r} (h:f14 a0=some r):callIso prE (X prE) 14 [sl 2 vunit a0]=some (sl 2 vunit r.1,r.2):=liftE rfl rfl rfl (W14 h) below_units
theorem Q15 {a0:List UInt8} {a1:Int} {r} (h:f15 a0 a1=some r):callIso prE (X prE) 15 [.str a0,.int .u8 a1]=some (sl 1 vstr r,true):=liftE rfl rfl rfl (W15 h) (below_sl fun _=>rfl)
theorem Q9 {s:List UInt8} {r} (h:f9 s=some r):callIso prE (X prE) 9 [.str s]=some (.tup [sl 2 vunit r.1,.int .i64 r.2.1,.int .i64 r.2.2],false):=atE rfl (W9 h) (by simp only [below,belowL,below_units,Bool.and_true,Bool.and_self])
end Go.Z
/-
 The contracts that Print needs,as calls of the program.
-/
namespace Go.Z
open Go Go.Abs
theorem N40 {n:Int} {r} (h:E40 n=some r):callIso prE (X prE) 40 [.int .i64 n]=some (.str r,false):=atE rfl (M40 h) rfl
theorem N38 {o:Option (List (List UInt8))} {p:List UInt8} {r} (h:(o.bind fun l=>E38 l p)=some r):callIso prE (X prE) 38 [sl 1 vstr o,.str p]=some (.str r,false):=by
 cases o with
 | none=>cases h
 | some l=>
  refine atE rfl ?_ rfl
  refine withP_more (f:=t38) rfl rfl ?_ rfl
  show ((strsOf (l.map vstr)).bind fun ss=>(E38 ss p).map fun r=>(AVal.str r,false))=_
  rw [strsOf_map]
  show (E38 l p).map (fun r=>(AVal.str r,false))=_
  rw [show E38 l p=some r from h]; rfl
theorem N36 {o r} (h:E10 o=some r):callIso prE (X prE) 36 [sl 2 vunit o]=some (.int .i64 r,false):=atE rfl (M36 h) rfl
end Go.Z
/-
 LineTexts: the program's Print: functions that mirror the runs,and the runs (printed by walk.py; seat .ZD).
-/
namespace Go.Z
open Go Go.Abs
noncomputable def E38o (o:Option (List (List UInt8))) (p:List UInt8):Option (List UInt8):=o.bind fun l=>E38 l p
noncomputable def s39_0 (a0:Option (List Int)) (s0:(Option (List (List UInt8))) × Int × Bool):Option (((Option (List (List UInt8))) × Int × Bool) ⊕ (((Option (List (List UInt8))) × Bool × Int))):=
 cond (decide (s0.2.1 < ((a0.getD []).length:Int)))
  (obind (idxO (a0.getD []) s0.2.1) fun v18=>
  obind (E40 v18) fun v20=>
  cond s0.2.2
   (obind (apO s0.1 [v20]) fun v23=>
   some (.inl (v23,wrapF .i64 (s0.2.1 + 1),true)))
   (cond s0.1.isNone
    (obind (apO s0.1 [v20]) fun v26=>
    some (.inl (v26,wrapF .i64 (s0.2.1 + 1),true)))
    (none)))
  (some (.inr (s0.1,s0.2.2,s0.2.1)))
def St39_0 (a0:Option (List Int)) (s0:(Option (List (List UInt8))) × Int × Bool):ASt:=⟨[(1,.fn (.func 40) [] [],false),(5,sl 1 vstr s0.1,s0.2.2),(8,sl 1 vint a0,false),(9,.int .i64 ((a0.getD []).length:Int),false),(10,.int .i64 s0.2.1,false)],[]⟩
def Ex39_0 (a0:Option (List Int)) (d:((Option (List (List UInt8))) × Bool × Int)):AExit × ASt:=(.exit 0,⟨[(1,.fn (.func 40) [] [],false),(5,sl 1 vstr d.1,d.2.1),(8,sl 1 vint a0,false),(9,.int .i64 ((a0.getD []).length:Int),false),(10,.int .i64 d.2.2,false),(11,.bool false,false)],[]⟩)
theorem b39_0 (a0:Option (List Int)) (s0:(Option (List (List UInt8))) × Int × Bool) (r) (h:s39_0 a0 s0=some r):stepO prE c39_0 (St39_0 a0) (Ex39_0 a0) s0 r:=by
 unfold s39_0 at h
 rcases cond_split h with ⟨h17,h⟩ | ⟨h17,h⟩
 ·obtain ⟨v18,h19,h⟩:=obind_some h
  obtain ⟨v20,h21,h⟩:=obind_some h
  have wh21:callIso prE (X prE) 40 [.int .i64 v18]=some (.str v20,false):=N40 h21
  rcases cond_split h with ⟨h22,h⟩ | ⟨h22,h⟩
  ·obtain ⟨v23,h24,h⟩:=obind_some h
   cases h
   exact stepO_in (st':=⟨[(1,.fn (.func 40) [] [],false),(5,sl 1 vstr v23,true),(8,sl 1 vint a0,false),(9,.int .i64 ((a0.getD []).length:Int),false),(10,.int .i64 (wrapF .i64 (s0.2.1 + 1)),false)],[]⟩) (by simp only [go_sem,seval,c39_0,St39_0,h17,idxR_O h19,wh21,h22,app_vstr_O h24] <;> rfl) (gc_same (Nat.le_refl _))
  ·rcases cond_split h with ⟨h25,h⟩ | ⟨h25,h⟩
   ·obtain ⟨v26,h27,h⟩:=obind_some h
    cases h
    exact stepO_in (st':=⟨[(1,.fn (.func 40) [] [],false),(5,sl 1 vstr v26,true),(8,sl 1 vint a0,false),(9,.int .i64 ((a0.getD []).length:Int),false),(10,.int .i64 (wrapF .i64 (s0.2.1 + 1)),false)],[]⟩) (by simp only [go_sem,seval,c39_0,St39_0,h17,idxR_O h19,wh21,h22,h25,app_vstr_N h27 h25] <;> rfl) (gc_same (Nat.le_refl _))
   ·cases h
 ·cases h
  exact stepO_out (by simp only [go_sem,seval,c39_0,St39_0,h17,Ex39_0] <;> rfl)
theorem l39_0 (a0:Option (List Int)) {s0:(Option (List (List UInt8))) × Int × Bool} {d} (h:itO (s39_0 a0) s0=some d):X prE (.loop c39_0) (St39_0 a0 s0)=some (Ex39_0 a0 d):=X_itO (b39_0 a0) (fun d hh=>by cases hh) h
noncomputable def f39 (a0:Option (List Int)):Option ((Option (List (List UInt8))) × Bool):=
 obind (itO (s39_0 a0) (none,0,false)) fun d28=>
 some (d28.1,d28.2.1)
theorem W39 {a0:Option (List Int)} {r} (h:f39 a0=some r):callIso prE (X prE) 39 [sl 1 vint a0,.fn (.func 40) [] []]=some (sl 1 vstr r.1,r.2):=by
 unfold f39 at h
 obtain ⟨d28,h29,h⟩:=obind_some h
 have wh29:X prE (.loop c39_0) ⟨[(1,.fn (.func 40) [] [],false),(5,.list true 0 [],false),(8,sl 1 vint a0,false),(9,.int .i64 ((a0.getD []).length:Int),false),(10,.int .i64 0,false)],[]⟩=some (.exit 0,⟨[(1,.fn (.func 40) [] [],false),(5,sl 1 vstr d28.1,d28.2.1),(8,sl 1 vint a0,false),(9,.int .i64 ((a0.getD []).length:Int),false),(10,.int .i64 d28.2.2,false),(11,.bool false,false)],[]⟩):=l39_0 a0 h29
 have hr:(d28.1,d28.2.1)=r:=Option.some.inj h
 subst hr
 have this:∃ hh,callFn prE (X prE) 39 [sl 1 vint a0,.fn (.func 40) [] []] []=some (sl 1 vstr d28.1,d28.2.1,hh):=by
  rw [callFn_at (show prE.fns 39=some c39 from rfl) (by simp)]
  simp only [go_sem,seval,c39,wh29]
  exact ⟨_,rfl⟩
 obtain ⟨hh,this⟩:=this
 exact callIso_of_dyn rfl this (by first | rfl | simp only [go_sem,seval]) (by first | rfl | simp only [go_sem,seval]) (by first | rfl | simp only [go_sem,seval])
noncomputable def s7_0 (a0:Option (List GUnit)) (s0:Int × (List UInt8)):Option ((Int × (List UInt8)) ⊕ ((Int × (List UInt8)))):=
 cond (decide (s0.1 < ((a0.getD []).length:Int)))
  (obind (idxO (a0.getD []) s0.1) fun v31=>
  obind (f39 v31.values) fun v33=>
  obind (apO (some [v31.serial]) (v33.1.getD [])) fun v35=>
  obind (E38o v35 ([32]:List UInt8)) fun v37=>
  obind (catO v37 ([10]:List UInt8)) fun v39=>
  obind (E37 s0.2 v39) fun v41=>
  some (.inl (wrapF .i64 (s0.1 + 1),v41)))
  (some (.inr (s0.1,s0.2)))
def St7_0 (a0:Option (List GUnit)) (s0:Int × (List UInt8)):ASt:=⟨[(5,.ptr 0 0,false),(13,sl 2 vunit a0,false),(14,.int .i64 ((a0.getD []).length:Int),false),(15,.int .i64 s0.1,false)],[.bld 89 5 s0.2]⟩
def Ex7_0 (a0:Option (List GUnit)) (d:(Int × (List UInt8))):AExit × ASt:=(.exit 0,⟨[(5,.ptr 0 0,false),(13,sl 2 vunit a0,false),(14,.int .i64 ((a0.getD []).length:Int),false),(15,.int .i64 d.1,false),(16,.bool false,false)],[.bld 89 5 d.2]⟩)
theorem b7_0 (a0:Option (List GUnit)) (s0:Int × (List UInt8)) (r) (h:s7_0 a0 s0=some r):stepO prE c7_0 (St7_0 a0) (Ex7_0 a0) s0 r:=by
 unfold s7_0 at h
 rcases cond_split h with ⟨h30,h⟩ | ⟨h30,h⟩
 ·obtain ⟨v31,h32,h⟩:=obind_some h
  obtain ⟨v33,h34,h⟩:=obind_some h
  have wh34:callIso prE (X prE) 39 [sl 1 vint v31.values,.fn (.func 40) [] []]=some (sl 1 vstr v33.1,v33.2):=W39 h34
  obtain ⟨v35,h36,h⟩:=obind_some h
  obtain ⟨v37,h38,h⟩:=obind_some h
  have wh38:callIso prE (X prE) 38 [sl 1 vstr v35,.str ([32]:List UInt8)]=some (.str v37,false):=N38 h38
  obtain ⟨v39,h40,h⟩:=obind_some h
  obtain ⟨v41,h42,h⟩:=obind_some h
  have wh42:callFn prE (X prE) 37 [.ptr 0 0,.str v39] [.bld 89 5 s0.2,.cells [(.str v31.serial,false),(sl 1 vint v31.values,false)]]=some (.tup [.int .i64 (v39.length:Int),.any],false,[.bld 89 5 v41,.cells [(.str v31.serial,false),(sl 1 vint v31.values,false)]]):=W37 rfl h42
  cases h
  exact stepO_in (st':=⟨[(5,.ptr 0 0,false),(13,sl 2 vunit a0,false),(14,.int .i64 ((a0.getD []).length:Int),false),(15,.int .i64 (wrapF .i64 (s0.1 + 1)),false)],[.bld 89 5 v41]++[.cells [(.str v31.serial,false),(sl 1 vint v31.values,false)]]⟩) (by simp only [go_sem,seval,c7_0,St7_0,h30,idxR_O h32,wh34,(show ∀ (b t:Nat) (hq:Heap),appR 1 b hq (some t) (some (.list false 1 [.str v31.serial])) (some (sl 1 vstr v33.1))=ifR (decide (b≤4096)) (some ⟨sl 1 vstr v35,true,some t,hq⟩) from fun _ _ _=>app_sl_O (o:=some [v31.serial]) h36),wh38,b_cat_O h40,wh42] <;> rfl) (gc_over rfl rfl (by first | simp only [go_sem,seval,St7_0] | rfl) (by first | simp only [go_sem,seval,St7_0] | rfl))
 ·cases h
  exact stepO_out (by simp only [go_sem,seval,c7_0,St7_0,h30,Ex7_0] <;> rfl)
theorem l7_0 (a0:Option (List GUnit)) {s0:Int × (List UInt8)} {d} (h:itO (s7_0 a0) s0=some d):X prE (.loop c7_0) (St7_0 a0 s0)=some (Ex7_0 a0 d):=X_itO (b7_0 a0) (fun d hh=>by cases hh) h
noncomputable def f7 (a0:Option (List GUnit)):Option ((List UInt8) × Int):=
 obind (E10 a0) fun v1=>
 cond (decide (v1=0))
  (obind (itO (s7_0 a0) (0,[])) fun d43=>
  obind (some d43.2) fun v45=>
  some (v45,0))
  (some ([],v1))
theorem W7 {a0:Option (List GUnit)} {r} (h:f7 a0=some r):callIso prE (X prE) 7 [sl 2 vunit a0]=some (.tup [.str r.1,.int .i64 r.2],false):=by
 unfold f7 at h
 obtain ⟨v1,h2,h⟩:=obind_some h
 have wh2:callIso prE (X prE) 36 [sl 2 vunit a0]=some (.int .i64 v1,false):=N36 h2
 rcases cond_split h with ⟨h3,h⟩ | ⟨h3,h⟩
 ·obtain ⟨d43,h44,h⟩:=obind_some h
  have wh44:X prE (.loop c7_0) ⟨[(5,.ptr 0 0,false),(13,sl 2 vunit a0,false),(14,.int .i64 ((a0.getD []).length:Int),false),(15,.int .i64 0,false)],[.bld 89 5 []]⟩=some (.exit 0,⟨[(5,.ptr 0 0,false),(13,sl 2 vunit a0,false),(14,.int .i64 ((a0.getD []).length:Int),false),(15,.int .i64 d43.1,false),(16,.bool false,false)],[.bld 89 5 d43.2]⟩):=l7_0 a0 h44
  obtain ⟨v45,h46,h⟩:=obind_some h
  have wh46:callFn prE (X prE) 41 [.ptr 0 0] [.bld 89 5 d43.2]=some (.str v45,false,[.dead]):=W41 rfl h46
  have hr:(v45,0)=r:=Option.some.inj h
  subst hr
  have this:∃ hh,callFn prE (X prE) 7 [sl 2 vunit a0] []=some (.tup [.str v45,.int .i64 0],false,hh):=by
   rw [callFn_at (show prE.fns 7=some c7 from rfl) (by simp)]
   simp only [go_sem,seval,c7,wh2,h3,wh44,wh46]
   exact ⟨_,rfl⟩
  obtain ⟨hh,this⟩:=this
  exact callIso_of rfl this (by first | rfl | simp only [go_sem,seval]) (by first | rfl | simp only [go_sem,seval])
 ·have hr:([],v1)=r:=Option.some.inj h
  subst hr
  have this:∃ hh,callFn prE (X prE) 7 [sl 2 vunit a0] []=some (.tup [.str [],.int .i64 v1],false,hh):=by
   rw [callFn_at (show prE.fns 7=some c7 from rfl) (by simp)]
   simp only [go_sem,seval,c7,wh2,h3]
   exact ⟨_,rfl⟩
  obtain ⟨hh,this⟩:=this
  exact callIso_of rfl this (by first | rfl | simp only [go_sem,seval]) (by first | rfl | simp only [go_sem,seval])
end Go.Z
