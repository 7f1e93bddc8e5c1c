/-
  LineTexts: the program's Parse: functions that mirror the runs, and the runs (printed by walk.py; seat .ZD).
-/
import Derived.Test.YtoljkienfmckjaaGreatDoorN4
import Derived.Test.YtoljkienfmckjaaGreatDoorR1
import Derived.Test.YtoljkienfmckjaaGreatDoorG0m
import Derived.Test.YtoljkienfmckjaaGreatDoorN0
set_option linter.unusedVariables false
set_option linter.unusedSimpArgs false
set_option maxRecDepth 100000
set_option maxHeartbeats 4000000
namespace Go.Z
open Go Go.Abs
noncomputable def f92 (c0_0:List UInt8) (c0_1:Option (List Int)) (c1_0:Option (List (List UInt8))) (c1_1:Bool) (c2_0:List UInt8) (c2_1:Option (List Int)) (o2_1:Bool):Option (Int × (Option (List (List UInt8))) × Bool):=
 obind (idxO (c1_0.getD []) 0) fun v1=>
 obind (f121 v1) fun v3=>
 obind (cutSO c1_0 (some 1) none) fun v5=>
 cond c1_1
  (some (v3.1,v5,true))
  (some (v3.1,v5,!v3.2))
theorem W92 {c0_0:List UInt8} {c0_1:Option (List Int)} {c1_0:Option (List (List UInt8))} {c1_1:Bool} {c2_0:List UInt8} {c2_1:Option (List Int)} {o2_1:Bool} {r} (h:f92 c0_0 c0_1 c1_0 c1_1 c2_0 c2_1 o2_1=some r):callFn prD (X prD) 92 [.ptr 1 0] [.cells [(.str c0_0,false),(sl 1 vint c0_1,false)],.cells [(sl 1 vstr c1_0,false),(.bool c1_1,false)],.cells [(.str c2_0,false),(sl 1 vint c2_1,o2_1)]]=some (.int .i64 r.1,false,[.cells [(.str c0_0,false),(sl 1 vint c0_1,false)],.cells [(sl 1 vstr r.2.1,false),(.bool r.2.2,false)],.cells [(.str c2_0,false),(sl 1 vint c2_1,o2_1)]]):=by
 unfold f92 at h
 obtain ⟨v1,h2,h⟩:=obind_some h
 obtain ⟨v3,h4,h⟩:=obind_some h
 have wh4:callIso prD (X prD) 121 [.str v1]=some (.tup [.int .i64 v3.1,.bool v3.2],false):=W121 h4
 obtain ⟨v5,h6,h⟩:=obind_some h
 rcases cond_split h with ⟨h7,h⟩ | ⟨h7,h⟩
 ·have hr:(v3.1,v5,true)=r:=Option.some.inj h
  subst hr
  rw [callFn_at (show prD.fns 92=some c92 from rfl) (by simp)]
  simp only [go_sem,seval,c92,idxR_O h2,wh4,slCut_l h6,h7] <;> rfl
 ·have hr:(v3.1,v5,!v3.2)=r:=Option.some.inj h
  subst hr
  rw [callFn_at (show prD.fns 92=some c92 from rfl) (by simp)]
  simp only [go_sem,seval,c92,idxR_O h2,wh4,slCut_l h6,h7] <;> rfl
noncomputable def s45_0 (v5:List UInt8) (s0:(Option (List (List UInt8))) × Bool × (Option (List Int)) × Bool):Option (((Option (List (List UInt8))) × Bool × (Option (List Int)) × Bool) ⊕ (((Option (List (List UInt8))) × Bool × (Option (List Int)) × Bool))):=
 cond (decide (0 < ((s0.1.getD []).length:Int)))
  (obind (f92 [] none s0.1 s0.2.1 v5 s0.2.2.1 s0.2.2.2) fun v20=>
  cond s0.2.2.2
   (obind (apO s0.2.2.1 [v20.1]) fun v23=>
   some (.inl (v20.2.1,v20.2.2,v23,true)))
   (cond s0.2.2.1.isNone
    (obind (apO s0.2.2.1 [v20.1]) fun v26=>
    some (.inl (v20.2.1,v20.2.2,v26,true)))
    (none)))
  (some (.inr (s0.1,s0.2.1,s0.2.2.1,s0.2.2.2)))
def St45_0 (v5:List UInt8) (s0:(Option (List (List UInt8))) × Bool × (Option (List Int)) × Bool):ASt:=⟨[(2,.ptr 0 0,false),(5,.ptr 1 0,false),(6,.fn (.func 92) [.ptr 1 0] [],false),(7,.ptr 2 0,false)],[.cells [(.str [],false),(.list true 0 [],false)],.cells [(sl 1 vstr s0.1,false),(.bool s0.2.1,false)],.cells [(.str v5,false),(sl 1 vint s0.2.2.1,s0.2.2.2)]]⟩
def Ex45_0 (v5:List UInt8) (d:((Option (List (List UInt8))) × Bool × (Option (List Int)) × Bool)):AExit × ASt:=(.exit 0,⟨[(2,.ptr 0 0,false),(5,.ptr 1 0,false),(6,.fn (.func 92) [.ptr 1 0] [],false),(7,.ptr 2 0,false),(26,.bool false,false)],[.cells [(.str [],false),(.list true 0 [],false)],.cells [(sl 1 vstr d.1,false),(.bool d.2.1,false)],.cells [(.str v5,false),(sl 1 vint d.2.2.1,d.2.2.2)]]⟩)
theorem b45_0 (v5:List UInt8) (s0:(Option (List (List UInt8))) × Bool × (Option (List Int)) × Bool) (r) (h:s45_0 v5 s0=some r):stepO prD c45_0 (St45_0 v5) (Ex45_0 v5) s0 r:=by
 unfold s45_0 at h
 rcases cond_split h with ⟨h19,h⟩ | ⟨h19,h⟩
 ·obtain ⟨v20,h21,h⟩:=obind_some h
  have wh21:callFn prD (X prD) 92 [.ptr 1 0] [.cells [(.str [],false),(.list true 0 [],false)],.cells [(sl 1 vstr s0.1,false),(.bool s0.2.1,false)],.cells [(.str v5,false),(sl 1 vint s0.2.2.1,s0.2.2.2)]]=some (.int .i64 v20.1,false,[.cells [(.str [],false),(.list true 0 [],false)],.cells [(sl 1 vstr v20.2.1,false),(.bool v20.2.2,false)],.cells [(.str v5,false),(sl 1 vint s0.2.2.1,s0.2.2.2)]]):=W92 h21
  rcases cond_split h with ⟨h22,h⟩ | ⟨h22,h⟩
  ·try simp only [h22] at wh21
   obtain ⟨v23,h24,h⟩:=obind_some h
   cases h
   exact stepO_in (st':=⟨[(2,.ptr 0 0,false),(5,.ptr 1 0,false),(6,.fn (.func 92) [.ptr 1 0] [],false),(7,.ptr 2 0,false)],[.cells [(.str [],false),(.list true 0 [],false)],.cells [(sl 1 vstr v20.2.1,false),(.bool v20.2.2,false)],.cells [(.str v5,false),(sl 1 vint v23,true)]]⟩) (by simp only [go_sem,seval,c45_0,St45_0,h19,wh21,h22,app_vint_O h24] <;> rfl) (gc_same (Nat.le_refl _))
  ·try simp only [h22] at wh21
   rcases cond_split h with ⟨h25,h⟩ | ⟨h25,h⟩
   ·try simp only [h25] at wh21
    obtain ⟨v26,h27,h⟩:=obind_some h
    cases h
    exact stepO_in (st':=⟨[(2,.ptr 0 0,false),(5,.ptr 1 0,false),(6,.fn (.func 92) [.ptr 1 0] [],false),(7,.ptr 2 0,false)],[.cells [(.str [],false),(.list true 0 [],false)],.cells [(sl 1 vstr v20.2.1,false),(.bool v20.2.2,false)],.cells [(.str v5,false),(sl 1 vint v26,true)]]⟩) (by simp only [go_sem,seval,c45_0,St45_0,h19,wh21,h22,h25,app_vint_N h27 h25] <;> rfl) (gc_same (Nat.le_refl _))
   ·try simp only [h25] at wh21
    cases h
 ·cases h
  exact stepO_out (by simp only [go_sem,seval,c45_0,St45_0,h19,Ex45_0] <;> rfl)
theorem l45_0 (v5:List UInt8) {s0:(Option (List (List UInt8))) × Bool × (Option (List Int)) × Bool} {d} (h:itO (s45_0 v5) s0=some d):X prD (.loop c45_0) (St45_0 v5 s0)=some (Ex45_0 v5 d):=X_itO (b45_0 v5) (fun d hh=>by cases hh) h
noncomputable def f45 (a0:List UInt8):Option (GUnit × Bool):=
 obind (E91 a0 ([32]:List UInt8)) fun v1=>
 obind (cutSO v1 (some 1) none) fun v3=>
 obind (idxO (v1.getD []) 0) fun v5=>
 obind (itO (s45_0 v5) (v3,false,none,false)) fun d28=>
 cond (decide (v5=[]))
  (some (⟨v5,d28.2.2.1⟩,false))
  (cond (decide (0 < ((d28.2.2.1.getD []).length:Int)))
   (some (⟨v5,d28.2.2.1⟩,!d28.2.1))
   (some (⟨v5,d28.2.2.1⟩,false)))
theorem W45 {a0:List UInt8} {r} (h:f45 a0=some r):callIso prD (X prD) 45 [.str a0]=some (.tup [.agg [.str r.1.serial,sl 1 vint r.1.values],.bool r.2],false):=by
 unfold f45 at h
 obtain ⟨v1,h2,h⟩:=obind_some h
 have wh2:callIso prD (X prD) 91 [.str a0,.str ([32]:List UInt8)]=some (sl 1 vstr v1,false):=M91 h2
 obtain ⟨v3,h4,h⟩:=obind_some h
 obtain ⟨v5,h6,h⟩:=obind_some h
 obtain ⟨d28,h29,h⟩:=obind_some h
 have wh29:X prD (.loop c45_0) ⟨[(2,.ptr 0 0,false),(5,.ptr 1 0,false),(6,.fn (.func 92) [.ptr 1 0] [],false),(7,.ptr 2 0,false)],[.cells [(.str [],false),(.list true 0 [],false)],.cells [(sl 1 vstr v3,false),(.bool false,false)],.cells [(.str v5,false),(.list true 0 [],false)]]⟩=some (.exit 0,⟨[(2,.ptr 0 0,false),(5,.ptr 1 0,false),(6,.fn (.func 92) [.ptr 1 0] [],false),(7,.ptr 2 0,false),(26,.bool false,false)],[.cells [(.str [],false),(.list true 0 [],false)],.cells [(sl 1 vstr d28.1,false),(.bool d28.2.1,false)],.cells [(.str v5,false),(sl 1 vint d28.2.2.1,d28.2.2.2)]]⟩):=l45_0 v5 h29
 rcases cond_split h with ⟨h30,h⟩ | ⟨h30,h⟩
 ·have hr:(⟨v5,d28.2.2.1⟩,false)=r:=Option.some.inj h
  subst hr
  have this:∃ hh,callFn prD (X prD) 45 [.str a0] []=some (.tup [.agg [.str v5,sl 1 vint d28.2.2.1],.bool false],false,hh):=by
   rw [callFn_at (show prD.fns 45=some c45 from rfl) (by simp)]
   simp only [go_sem,seval,c45,wh2,slCut_l h4,idxR_O h6,wh29,h30]
   exact ⟨_,rfl⟩
  obtain ⟨hh,this⟩:=this
  exact callIso_of rfl this (by first | rfl | simp only [go_sem,seval]) (by first | rfl | simp only [go_sem,seval])
 ·rcases cond_split h with ⟨h31,h⟩ | ⟨h31,h⟩
  ·have hr:(⟨v5,d28.2.2.1⟩,!d28.2.1)=r:=Option.some.inj h
   subst hr
   have this:∃ hh,callFn prD (X prD) 45 [.str a0] []=some (.tup [.agg [.str v5,sl 1 vint d28.2.2.1],.bool (!d28.2.1)],false,hh):=by
    rw [callFn_at (show prD.fns 45=some c45 from rfl) (by simp)]
    simp only [go_sem,seval,c45,wh2,slCut_l h4,idxR_O h6,wh29,h30,h31]
    exact ⟨_,rfl⟩
   obtain ⟨hh,this⟩:=this
   exact callIso_of rfl this (by first | rfl | simp only [go_sem,seval]) (by first | rfl | simp only [go_sem,seval])
  ·have hr:(⟨v5,d28.2.2.1⟩,false)=r:=Option.some.inj h
   subst hr
   have this:∃ hh,callFn prD (X prD) 45 [.str a0] []=some (.tup [.agg [.str v5,sl 1 vint d28.2.2.1],.bool false],false,hh):=by
    rw [callFn_at (show prD.fns 45=some c45 from rfl) (by simp)]
    simp only [go_sem,seval,c45,wh2,slCut_l h4,idxR_O h6,wh29,h30,h31]
    exact ⟨_,rfl⟩
   obtain ⟨hh,this⟩:=this
   exact callIso_of rfl this (by first | rfl | simp only [go_sem,seval]) (by first | rfl | simp only [go_sem,seval])
end Go.Z
