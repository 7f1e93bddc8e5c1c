/-
  The library's contracts as calls of the program.
-/
import Derived.Test.YtlonjmhacojkjaaGreatDoorZL
import Derived.Test.YtlonjmhacojkjaaGreatDoorN0
import Derived.Test.YtlonjmhacojkjaaGreatDoorL5
import Derived.Test.YtlonjmhacojkjaaGreatDoorR1
import Derived.Test.YtlonjmhacojkjaaGreatDoorG0m
set_option linter.unusedVariables false
set_option linter.unusedSimpArgs false
set_option maxRecDepth 100000
namespace Go.Z
open Go Go.Abs
theorem M36 {n:Int} {r} (h:E36 n=some r):callIso prD (X prD) 36 [.int .i64 n]=some (.str r,false):=withP_more (f:=t40) rfl rfl (by show (E36 n).map _=_; rw [h]; rfl) rfl
theorem M39 {s p:List UInt8} {r} (h:E39 s p=some r):callIso prD (X prD) 39 [.str s,.str p]=some (.tup [.str r.1,.bool r.2],false):=withP_more (f:=t44) rfl rfl (by show (E39 s p).map _=_; rw [h]; rfl) rfl
theorem M115 {s p:List UInt8} {r} (h:E115 s p=some r):callIso prD (X prD) 115 [.str s,.str p]=some (.tup [.str r.1,.bool r.2],false):=withP_more (f:=t146) rfl rfl (by show (E115 s p).map (fun r=>((AVal.tup [.str r.1,.bool r.2]),false))=_; rw [h]; rfl) rfl
theorem M66 {s:List UInt8} {c:Int} {r} (h:E66 s c=some r):callIso prD (X prD) 66 [.str s,.int .u8 c]=some (.int .i64 r,false):=withP_more (f:=t89) rfl rfl (by show (E66 s c).map (fun r=>((AVal.int .i64 r),false))=_; rw [h]; rfl) rfl
theorem M68 {s p:List UInt8} {r} (h:E68 s p=some r):callIso prD (X prD) 68 [.str s,.str p]=some (sl 1 vstr r,false):=withP_more (f:=t91) rfl rfl (by show (E68 s p).map _=_; rw [h]; rfl) (show below 0 _=true from by simp only [go_sem,seval])
theorem M32 {o r} (h:E1022 o=some r):callIso prD (X prD) 32 [sl 2 vunit o]=some (.int .i64 r,false):=atD rfl rfl (WE32 h) rfl
end Go.Z
/-
 LineTexts: the program's Parse: functions that mirror the runs,and the runs (printed by walk.py; seat .ZD).
-/
set_option maxHeartbeats 4000000
namespace Go.Z
open Go Go.Abs
noncomputable def s94_0 (v1:(List UInt8) × Bool) (s1000:Int × Nat):Option ((Int × Nat) ⊕ (Nat ⊕ (Int × Nat))):=
 cond (decide (s1000.2 < v1.1.length))
  (cond (decide (((decodeA v1.1 s1000.2).1:Int) < 48))
   (some (.inr (.inl (s1000.2 + (decodeA v1.1 s1000.2).2))))
   (cond (decide (57 < ((decodeA v1.1 s1000.2).1:Int)))
    (some (.inr (.inl (s1000.2 + (decodeA v1.1 s1000.2).2))))
    (cond (decide (9 < (v1.1.length:Int)))
     (some (.inr (.inl (s1000.2 + (decodeA v1.1 s1000.2).2))))
     (some (.inl (wrapF .i64 ((wrapF .i64 (10 * s1000.1)) + (wrapF .i64 (wrapF .i32 (((decodeA v1.1 s1000.2).1:Int) - 48)))),s1000.2 + (decodeA v1.1 s1000.2).2))))))
  (some (.inr (.inr (s1000.1,s1000.2))))
def St94_0 (v1:(List UInt8) × Bool) (s1000:Int × Nat):ASt:=⟨[(4,.str v1.1,false),(5,.bool v1.2,false),(6,.int .i64 s1000.1,false),(16,.ptr 0 0,false)],[.iter v1.1 s1000.2]⟩
def Ex94_0 (v1:(List UInt8) × Bool):Nat ⊕ (Int × Nat)→AExit × ASt
 | .inl d=>(.ret,⟨[(2,.int .i64 0,false),(3,.bool false,false)],[.iter v1.1 d]⟩)
 | .inr d=>(.exit 0,⟨[(4,.str v1.1,false),(5,.bool v1.2,false),(6,.int .i64 d.1,false),(16,.ptr 0 0,false),(17,.tup [.bool false],false),(18,.bool false,false)],[.iter v1.1 d.2]⟩)
theorem b94_0 (v1:(List UInt8) × Bool) (s1000:Int × Nat) (r) (h:s94_0 v1 s1000=some r):stepO prD c94_0 (St94_0 v1) (Ex94_0 v1) s1000 r:=by
 unfold s94_0 at h
 rcases cond_split h with ⟨h11,h⟩ | ⟨h11,h⟩
 ·rcases cond_split h with ⟨h12,h⟩ | ⟨h12,h⟩
  ·cases h
   exact stepO_out (by simp only [go_sem,seval,c94_0,St94_0,h11,iter_t h11,h12,Ex94_0] <;> rfl)
  ·rcases cond_split h with ⟨h13,h⟩ | ⟨h13,h⟩
   ·cases h
    exact stepO_out (by simp only [go_sem,seval,c94_0,St94_0,h11,iter_t h11,h12,h13,Ex94_0] <;> rfl)
   ·rcases cond_split h with ⟨h14,h⟩ | ⟨h14,h⟩
    ·cases h
     exact stepO_out (by simp only [go_sem,seval,c94_0,St94_0,h11,iter_t h11,h12,h13,h14,Ex94_0] <;> rfl)
    ·cases h
     exact stepO_in (st':=⟨[(4,.str v1.1,false),(5,.bool v1.2,false),(6,.int .i64 (wrapF .i64 ((wrapF .i64 (10 * s1000.1)) + (wrapF .i64 (wrapF .i32 (((decodeA v1.1 s1000.2).1:Int) - 48))))),false),(16,.ptr 0 0,false)],[.iter v1.1 (s1000.2 + (decodeA v1.1 s1000.2).2)]⟩) (by simp only [go_sem,seval,c94_0,St94_0,h11,iter_t h11,h12,h13,h14] <;> rfl) (gc_same (Nat.le_refl _))
 ·cases h
  exact stepO_out (by simp only [go_sem,seval,c94_0,St94_0,h11,iter_f h11,Ex94_0] <;> rfl)
theorem l94_0 (v1:(List UInt8) × Bool) {s1000:Int × Nat} {d} (h:itO (s94_0 v1) s1000=some d):X prD (.loop c94_0) (St94_0 v1 s1000)=some (Ex94_0 v1 d):=X_itO (b94_0 v1) (fun d=>by rcases d with d|d <;> (intro hh; cases hh)) h
noncomputable def f94 (a0:List UInt8):Option (Int × Bool):=
 obind (E115 a0 ([45]:List UInt8)) fun v1=>
 obind (itO (s94_0 v1) (0,0)) fun d15=>match d15 with
  | .inl d17=>
   some (0,false)
  | .inr d18=>
   cond (decide (v1.1=[]))
    (cond v1.2
     (some (wrapF .i64 (0 - d18.1),false))
     (some (d18.1,false)))
    (cond (decide ((v1.1.length:Int)=1))
     (cond v1.2
      (some (wrapF .i64 (0 - d18.1),decide (0 < d18.1)))
      (some (d18.1,true)))
     (obind (idxO v1.1 0) fun v23=>
     cond v1.2
      (cond (decide ((v23.toNat:Int)=48))
       (some (wrapF .i64 (0 - d18.1),false))
       (some (wrapF .i64 (0 - d18.1),decide (0 < d18.1))))
      (some (d18.1,!decide ((v23.toNat:Int)=48)))))
theorem W94 {a0:List UInt8} {r} (h:f94 a0=some r):callIso prD (X prD) 94 [.str a0]=some (.tup [.int .i64 r.1,.bool r.2],false):=by
 unfold f94 at h
 obtain ⟨v1,h2,h⟩:=obind_some h
 have wh2:callIso prD (X prD) 115 [.str a0,.str ([45]:List UInt8)]=some (.tup [.str v1.1,.bool v1.2],false):=M115 h2
 obtain ⟨d15,h16,h⟩:=obind_some h
 rcases d15 with d17 | d18
 ·have wh16:X prD (.loop c94_0) ⟨[(4,.str v1.1,false),(5,.bool v1.2,false),(6,.int .i64 0,false),(16,.ptr 0 0,false)],[.iter v1.1 0]⟩=some (.ret,⟨[(2,.int .i64 0,false),(3,.bool false,false)],[.iter v1.1 d17]⟩):=l94_0 v1 h16
  have hr:(0,false)=r:=Option.some.inj h
  subst hr
  have this:∃ hh,callFn prD (X prD) 94 [.str a0] []=some (.tup [.int .i64 0,.bool false],false,hh):=by
   rw [callFn_at (show prD.fns 94=some c94 from rfl) (by simp)]
   simp only [go_sem,seval,c94,wh2,wh16]
   exact ⟨_,rfl⟩
  obtain ⟨hh,this⟩:=this
  exact callIso_of rfl this (by first | rfl | simp only [go_sem,seval]) (by first | rfl | simp only [go_sem,seval])
 ·have wh16:X prD (.loop c94_0) ⟨[(4,.str v1.1,false),(5,.bool v1.2,false),(6,.int .i64 0,false),(16,.ptr 0 0,false)],[.iter v1.1 0]⟩=some (.exit 0,⟨[(4,.str v1.1,false),(5,.bool v1.2,false),(6,.int .i64 d18.1,false),(16,.ptr 0 0,false),(17,.tup [.bool false],false),(18,.bool false,false)],[.iter v1.1 d18.2]⟩):=l94_0 v1 h16
  rcases cond_split h with ⟨h19,h⟩ | ⟨h19,h⟩
  ·try simp only [h19] at wh16
   rcases cond_split h with ⟨h20,h⟩ | ⟨h20,h⟩
   ·try simp only [h20] at wh16
    have hr:(wrapF .i64 (0 - d18.1),false)=r:=Option.some.inj h
    subst hr
    have this:∃ hh,callFn prD (X prD) 94 [.str a0] []=some (.tup [.int .i64 (wrapF .i64 (0 - d18.1)),.bool false],false,hh):=by
     rw [callFn_at (show prD.fns 94=some c94 from rfl) (by simp)]
     simp only [go_sem,seval,c94,wh2,wh16,h19,h20]
     exact ⟨_,rfl⟩
    obtain ⟨hh,this⟩:=this
    exact callIso_of rfl this (by first | rfl | simp only [go_sem,seval]) (by first | rfl | simp only [go_sem,seval])
   ·try simp only [h20] at wh16
    have hr:(d18.1,false)=r:=Option.some.inj h
    subst hr
    have this:∃ hh,callFn prD (X prD) 94 [.str a0] []=some (.tup [.int .i64 d18.1,.bool false],false,hh):=by
     rw [callFn_at (show prD.fns 94=some c94 from rfl) (by simp)]
     simp only [go_sem,seval,c94,wh2,wh16,h19,h20]
     exact ⟨_,rfl⟩
    obtain ⟨hh,this⟩:=this
    exact callIso_of rfl this (by first | rfl | simp only [go_sem,seval]) (by first | rfl | simp only [go_sem,seval])
  ·try simp only [h19] at wh16
   rcases cond_split h with ⟨h21,h⟩ | ⟨h21,h⟩
   ·try simp only [h21] at wh16
    rcases cond_split h with ⟨h22,h⟩ | ⟨h22,h⟩
    ·try simp only [h22] at wh16
     have hr:(wrapF .i64 (0 - d18.1),decide (0 < d18.1))=r:=Option.some.inj h
     subst hr
     have this:∃ hh,callFn prD (X prD) 94 [.str a0] []=some (.tup [.int .i64 (wrapF .i64 (0 - d18.1)),.bool (decide (0 < d18.1))],false,hh):=by
      rw [callFn_at (show prD.fns 94=some c94 from rfl) (by simp)]
      simp only [go_sem,seval,c94,wh2,wh16,h19,h21,h22]
      exact ⟨_,rfl⟩
     obtain ⟨hh,this⟩:=this
     exact callIso_of rfl this (by first | rfl | simp only [go_sem,seval]) (by first | rfl | simp only [go_sem,seval])
    ·try simp only [h22] at wh16
     have hr:(d18.1,true)=r:=Option.some.inj h
     subst hr
     have this:∃ hh,callFn prD (X prD) 94 [.str a0] []=some (.tup [.int .i64 d18.1,.bool true],false,hh):=by
      rw [callFn_at (show prD.fns 94=some c94 from rfl) (by simp)]
      simp only [go_sem,seval,c94,wh2,wh16,h19,h21,h22]
      exact ⟨_,rfl⟩
     obtain ⟨hh,this⟩:=this
     exact callIso_of rfl this (by first | rfl | simp only [go_sem,seval]) (by first | rfl | simp only [go_sem,seval])
   ·try simp only [h21] at wh16
    obtain ⟨v23,h24,h⟩:=obind_some h
    rcases cond_split h with ⟨h25,h⟩ | ⟨h25,h⟩
    ·try simp only [h25] at wh16
     rcases cond_split h with ⟨h26,h⟩ | ⟨h26,h⟩
     ·try simp only [h26] at wh16
      have hr:(wrapF .i64 (0 - d18.1),false)=r:=Option.some.inj h
      subst hr
      have this:∃ hh,callFn prD (X prD) 94 [.str a0] []=some (.tup [.int .i64 (wrapF .i64 (0 - d18.1)),.bool false],false,hh):=by
       rw [callFn_at (show prD.fns 94=some c94 from rfl) (by simp)]
       simp only [go_sem,seval,c94,wh2,wh16,h19,h21,strIdx_O h24,h25,h26]
       exact ⟨_,rfl⟩
      obtain ⟨hh,this⟩:=this
      exact callIso_of rfl this (by first | rfl | simp only [go_sem,seval]) (by first | rfl | simp only [go_sem,seval])
     ·try simp only [h26] at wh16
      have hr:(wrapF .i64 (0 - d18.1),decide (0 < d18.1))=r:=Option.some.inj h
      subst hr
      have this:∃ hh,callFn prD (X prD) 94 [.str a0] []=some (.tup [.int .i64 (wrapF .i64 (0 - d18.1)),.bool (decide (0 < d18.1))],false,hh):=by
       rw [callFn_at (show prD.fns 94=some c94 from rfl) (by simp)]
       simp only [go_sem,seval,c94,wh2,wh16,h19,h21,strIdx_O h24,h25,h26]
       exact ⟨_,rfl⟩
      obtain ⟨hh,this⟩:=this
      exact callIso_of rfl this (by first | rfl | simp only [go_sem,seval]) (by first | rfl | simp only [go_sem,seval])
    ·try simp only [h25] at wh16
     have hr:(d18.1,!decide ((v23.toNat:Int)=48))=r:=Option.some.inj h
     subst hr
     have this:∃ hh,callFn prD (X prD) 94 [.str a0] []=some (.tup [.int .i64 d18.1,.bool (!decide ((v23.toNat:Int)=48))],false,hh):=by
      rw [callFn_at (show prD.fns 94=some c94 from rfl) (by simp)]
      simp only [go_sem,seval,c94,wh2,wh16,h19,h21,strIdx_O h24,h25]
      exact ⟨_,rfl⟩
     obtain ⟨hh,this⟩:=this
     exact callIso_of rfl this (by first | rfl | simp only [go_sem,seval]) (by first | rfl | simp only [go_sem,seval])
end Go.Z
/-
 LineTexts: the program's Parse: functions that mirror the runs,and the runs (printed by walk.py; seat .ZD).
-/
namespace Go.Z
open Go Go.Abs
noncomputable def f69 (c1000_0:List UInt8) (c1000_1:Option (List Int)) (c1001_0:Option (List (List UInt8))) (c1001_1:Bool) (c1002_0:List UInt8) (c1002_1:Option (List Int)) (o2_1:Bool):Option (Int × (Option (List (List UInt8))) × Bool):=
 obind (idxO (c1001_0.getD []) 0) fun v1=>
 obind (f94 v1) fun v3=>
 obind (cutSO c1001_0 (some 1) none) fun v5=>
 cond c1001_1
  (some (v3.1,v5,true))
  (some (v3.1,v5,!v3.2))
theorem W69 {c1000_0:List UInt8} {c1000_1:Option (List Int)} {c1001_0:Option (List (List UInt8))} {c1001_1:Bool} {c1002_0:List UInt8} {c1002_1:Option (List Int)} {o2_1:Bool} {r} (h:f69 c1000_0 c1000_1 c1001_0 c1001_1 c1002_0 c1002_1 o2_1=some r):callFn prD (X prD) 69 [.ptr 1 0] [.cells [(.str c1000_0,false),(sl 1 vint c1000_1,false)],.cells [(sl 1 vstr c1001_0,false),(.bool c1001_1,false)],.cells [(.str c1002_0,false),(sl 1 vint c1002_1,o2_1)]]=some (.int .i64 r.1,false,[.cells [(.str c1000_0,false),(sl 1 vint c1000_1,false)],.cells [(sl 1 vstr r.2.1,false),(.bool r.2.2,false)],.cells [(.str c1002_0,false),(sl 1 vint c1002_1,o2_1)]]):=by
 unfold f69 at h
 obtain ⟨v1,h2,h⟩:=obind_some h
 obtain ⟨v3,h4,h⟩:=obind_some h
 have wh4:callIso prD (X prD) 94 [.str v1]=some (.tup [.int .i64 v3.1,.bool v3.2],false):=W94 h4
 obtain ⟨v5,h6,h⟩:=obind_some h
 rcases cond_split h with ⟨h7,h⟩ | ⟨h7,h⟩
 ·have hr:(v3.1,v5,true)=r:=Option.some.inj h
  subst hr
  rw [callFn_at (show prD.fns 69=some c69 from rfl) (by simp)]
  simp only [go_sem,seval,c69,idxR_O h2,wh4,slCut_l h6,h7] <;> rfl
 ·have hr:(v3.1,v5,!v3.2)=r:=Option.some.inj h
  subst hr
  rw [callFn_at (show prD.fns 69=some c69 from rfl) (by simp)]
  simp only [go_sem,seval,c69,idxR_O h2,wh4,slCut_l h6,h7] <;> rfl
noncomputable def s40_0 (v5:List UInt8) (s1000:(Option (List (List UInt8))) × Bool × (Option (List Int)) × Bool):Option (((Option (List (List UInt8))) × Bool × (Option (List Int)) × Bool) ⊕ (((Option (List (List UInt8))) × Bool × (Option (List Int)) × Bool))):=
 cond (decide (0 < ((s1000.1.getD []).length:Int)))
  (obind (f69 [] none s1000.1 s1000.2.1 v5 s1000.2.2.1 s1000.2.2.2) fun v20=>
  cond s1000.2.2.2
   (obind (apO s1000.2.2.1 [v20.1]) fun v23=>
   some (.inl (v20.2.1,v20.2.2,v23,true)))
   (cond s1000.2.2.1.isNone
    (obind (apO s1000.2.2.1 [v20.1]) fun v26=>
    some (.inl (v20.2.1,v20.2.2,v26,true)))
    (none)))
  (some (.inr (s1000.1,s1000.2.1,s1000.2.2.1,s1000.2.2.2)))
def St40_0 (v5:List UInt8) (s1000:(Option (List (List UInt8))) × Bool × (Option (List Int)) × Bool):ASt:=⟨[(2,.ptr 0 0,false),(5,.ptr 1 0,false),(6,.fn (.func 69) [.ptr 1 0] [],false),(7,.ptr 2 0,false)],[.cells [(.str [],false),(.list true 0 [],false)],.cells [(sl 1 vstr s1000.1,false),(.bool s1000.2.1,false)],.cells [(.str v5,false),(sl 1 vint s1000.2.2.1,s1000.2.2.2)]]⟩
def Ex40_0 (v5:List UInt8) (d:((Option (List (List UInt8))) × Bool × (Option (List Int)) × Bool)):AExit × ASt:=(.exit 0,⟨[(2,.ptr 0 0,false),(5,.ptr 1 0,false),(6,.fn (.func 69) [.ptr 1 0] [],false),(7,.ptr 2 0,false),(26,.bool false,false)],[.cells [(.str [],false),(.list true 0 [],false)],.cells [(sl 1 vstr d.1,false),(.bool d.2.1,false)],.cells [(.str v5,false),(sl 1 vint d.2.2.1,d.2.2.2)]]⟩)
theorem b40_0 (v5:List UInt8) (s1000:(Option (List (List UInt8))) × Bool × (Option (List Int)) × Bool) (r) (h:s40_0 v5 s1000=some r):stepO prD c40_0 (St40_0 v5) (Ex40_0 v5) s1000 r:=by
 unfold s40_0 at h
 rcases cond_split h with ⟨h19,h⟩ | ⟨h19,h⟩
 ·obtain ⟨v20,h21,h⟩:=obind_some h
  have wh21:callFn prD (X prD) 69 [.ptr 1 0] [.cells [(.str [],false),(.list true 0 [],false)],.cells [(sl 1 vstr s1000.1,false),(.bool s1000.2.1,false)],.cells [(.str v5,false),(sl 1 vint s1000.2.2.1,s1000.2.2.2)]]=some (.int .i64 v20.1,false,[.cells [(.str [],false),(.list true 0 [],false)],.cells [(sl 1 vstr v20.2.1,false),(.bool v20.2.2,false)],.cells [(.str v5,false),(sl 1 vint s1000.2.2.1,s1000.2.2.2)]]):=W69 h21
  rcases cond_split h with ⟨h22,h⟩ | ⟨h22,h⟩
  ·try simp only [h22] at wh21
   obtain ⟨v23,h24,h⟩:=obind_some h
   cases h
   exact stepO_in (st':=⟨[(2,.ptr 0 0,false),(5,.ptr 1 0,false),(6,.fn (.func 69) [.ptr 1 0] [],false),(7,.ptr 2 0,false)],[.cells [(.str [],false),(.list true 0 [],false)],.cells [(sl 1 vstr v20.2.1,false),(.bool v20.2.2,false)],.cells [(.str v5,false),(sl 1 vint v23,true)]]⟩) (by simp only [go_sem,seval,c40_0,St40_0,h19,wh21,h22,app_vint_O h24] <;> rfl) (gc_same (Nat.le_refl _))
  ·try simp only [h22] at wh21
   rcases cond_split h with ⟨h25,h⟩ | ⟨h25,h⟩
   ·try simp only [h25] at wh21
    obtain ⟨v26,h27,h⟩:=obind_some h
    cases h
    exact stepO_in (st':=⟨[(2,.ptr 0 0,false),(5,.ptr 1 0,false),(6,.fn (.func 69) [.ptr 1 0] [],false),(7,.ptr 2 0,false)],[.cells [(.str [],false),(.list true 0 [],false)],.cells [(sl 1 vstr v20.2.1,false),(.bool v20.2.2,false)],.cells [(.str v5,false),(sl 1 vint v26,true)]]⟩) (by simp only [go_sem,seval,c40_0,St40_0,h19,wh21,h22,h25,app_vint_N h27 h25] <;> rfl) (gc_same (Nat.le_refl _))
   ·try simp only [h25] at wh21
    cases h
 ·cases h
  exact stepO_out (by simp only [go_sem,seval,c40_0,St40_0,h19,Ex40_0] <;> rfl)
theorem l40_0 (v5:List UInt8) {s1000:(Option (List (List UInt8))) × Bool × (Option (List Int)) × Bool} {d} (h:itO (s40_0 v5) s1000=some d):X prD (.loop c40_0) (St40_0 v5 s1000)=some (Ex40_0 v5 d):=X_itO (b40_0 v5) (fun d hh=>by cases hh) h
noncomputable def f40 (a0:List UInt8):Option (GUnit × Bool):=
 obind (E68 a0 ([32]:List UInt8)) fun v1=>
 obind (cutSO v1 (some 1) none) fun v3=>
 obind (idxO (v1.getD []) 0) fun v5=>
 obind (itO (s40_0 v5) (v3,false,none,false)) fun d28=>
 cond (decide (v5=[]))
  (some (⟨v5,d28.2.2.1⟩,false))
  (cond (decide (0 < ((d28.2.2.1.getD []).length:Int)))
   (some (⟨v5,d28.2.2.1⟩,!d28.2.1))
   (some (⟨v5,d28.2.2.1⟩,false)))
theorem W40 {a0:List UInt8} {r} (h:f40 a0=some r):callIso prD (X prD) 40 [.str a0]=some (.tup [.agg [.str r.1.serial,sl 1 vint r.1.values],.bool r.2],false):=by
 unfold f40 at h
 obtain ⟨v1,h2,h⟩:=obind_some h
 have wh2:callIso prD (X prD) 68 [.str a0,.str ([32]:List UInt8)]=some (sl 1 vstr v1,false):=M68 h2
 obtain ⟨v3,h4,h⟩:=obind_some h
 obtain ⟨v5,h6,h⟩:=obind_some h
 obtain ⟨d28,h29,h⟩:=obind_some h
 have wh29:X prD (.loop c40_0) ⟨[(2,.ptr 0 0,false),(5,.ptr 1 0,false),(6,.fn (.func 69) [.ptr 1 0] [],false),(7,.ptr 2 0,false)],[.cells [(.str [],false),(.list true 0 [],false)],.cells [(sl 1 vstr v3,false),(.bool false,false)],.cells [(.str v5,false),(.list true 0 [],false)]]⟩=some (.exit 0,⟨[(2,.ptr 0 0,false),(5,.ptr 1 0,false),(6,.fn (.func 69) [.ptr 1 0] [],false),(7,.ptr 2 0,false),(26,.bool false,false)],[.cells [(.str [],false),(.list true 0 [],false)],.cells [(sl 1 vstr d28.1,false),(.bool d28.2.1,false)],.cells [(.str v5,false),(sl 1 vint d28.2.2.1,d28.2.2.2)]]⟩):=l40_0 v5 h29
 rcases cond_split h with ⟨h30,h⟩ | ⟨h30,h⟩
 ·have hr:(⟨v5,d28.2.2.1⟩,false)=r:=Option.some.inj h
  subst hr
  have this:∃ hh,callFn prD (X prD) 40 [.str a0] []=some (.tup [.agg [.str v5,sl 1 vint d28.2.2.1],.bool false],false,hh):=by
   rw [callFn_at (show prD.fns 40=some c40 from rfl) (by simp)]
   simp only [go_sem,seval,c40,wh2,slCut_l h4,idxR_O h6,wh29,h30]
   exact ⟨_,rfl⟩
  obtain ⟨hh,this⟩:=this
  exact callIso_of rfl this (by first | rfl | simp only [go_sem,seval]) (by first | rfl | simp only [go_sem,seval])
 ·rcases cond_split h with ⟨h31,h⟩ | ⟨h31,h⟩
  ·have hr:(⟨v5,d28.2.2.1⟩,!d28.2.1)=r:=Option.some.inj h
   subst hr
   have this:∃ hh,callFn prD (X prD) 40 [.str a0] []=some (.tup [.agg [.str v5,sl 1 vint d28.2.2.1],.bool (!d28.2.1)],false,hh):=by
    rw [callFn_at (show prD.fns 40=some c40 from rfl) (by simp)]
    simp only [go_sem,seval,c40,wh2,slCut_l h4,idxR_O h6,wh29,h30,h31]
    exact ⟨_,rfl⟩
   obtain ⟨hh,this⟩:=this
   exact callIso_of rfl this (by first | rfl | simp only [go_sem,seval]) (by first | rfl | simp only [go_sem,seval])
  ·have hr:(⟨v5,d28.2.2.1⟩,false)=r:=Option.some.inj h
   subst hr
   have this:∃ hh,callFn prD (X prD) 40 [.str a0] []=some (.tup [.agg [.str v5,sl 1 vint d28.2.2.1],.bool false],false,hh):=by
    rw [callFn_at (show prD.fns 40=some c40 from rfl) (by simp)]
    simp only [go_sem,seval,c40,wh2,slCut_l h4,idxR_O h6,wh29,h30,h31]
    exact ⟨_,rfl⟩
   obtain ⟨hh,this⟩:=this
   exact callIso_of rfl this (by first | rfl | simp only [go_sem,seval]) (by first | rfl | simp only [go_sem,seval])
end Go.Z
