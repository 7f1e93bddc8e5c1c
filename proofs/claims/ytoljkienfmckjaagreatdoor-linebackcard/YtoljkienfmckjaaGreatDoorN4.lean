/-
  The library's contracts as calls of the program.
-/
import Derived.Test.YtoljkienfmckjaaGreatDoorZL
import Derived.Test.YtoljkienfmckjaaGreatDoorR1
import Derived.Test.YtoljkienfmckjaaGreatDoorG0m
import Derived.Test.YtoljkienfmckjaaGreatDoorN0
set_option linter.unusedVariables false
set_option linter.unusedSimpArgs false
set_option maxRecDepth 100000
namespace Go.Z
open Go Go.Abs
theorem M40 {n:Int} {r} (h:E40 n=some r):callIso prD (X prD) 40 [.int .i64 n]=some (.str r,false):=withP_more (f:=t40) rfl rfl (by show (E40 n).map _=_; rw [h]; rfl) rfl
theorem M44 {s p:List UInt8} {r} (h:E44 s p=some r):callIso prD (X prD) 44 [.str s,.str p]=some (.tup [.str r.1,.bool r.2],false):=withP_more (f:=t44) rfl rfl (by show (E44 s p).map _=_; rw [h]; rfl) rfl
theorem M146 {s p:List UInt8} {r} (h:E146 s p=some r):callIso prD (X prD) 146 [.str s,.str p]=some (.tup [.str r.1,.bool r.2],false):=withP_more (f:=t146) rfl rfl (by show (E146 s p).map (fun r=>((AVal.tup [.str r.1,.bool r.2]),false))=_; rw [h]; rfl) rfl
theorem M89 {s:List UInt8} {c:Int} {r} (h:E89 s c=some r):callIso prD (X prD) 89 [.str s,.int .u8 c]=some (.int .i64 r,false):=withP_more (f:=t89) rfl rfl (by show (E89 s c).map (fun r=>((AVal.int .i64 r),false))=_; rw [h]; rfl) rfl
theorem M91 {s p:List UInt8} {r} (h:E91 s p=some r):callIso prD (X prD) 91 [.str s,.str p]=some (sl 1 vstr r,false):=withP_more (f:=t91) rfl rfl (by show (E91 s p).map _=_; rw [h]; rfl) (show below 0 _=true from by simp only [go_sem,seval])
theorem M36 {o r} (h:E10 o=some r):callIso prD (X prD) 36 [sl 2 vunit o]=some (.int .i64 r,false):=atD rfl rfl (WE36 h) rfl
end Go.Z
/-
 LineTexts: the program's Parse: functions that mirror the runs,and the runs (printed by walk.py; seat .ZD).
-/
set_option maxHeartbeats 4000000
namespace Go.Z
open Go Go.Abs
noncomputable def s121_0 (v1:(List UInt8) × Bool) (s0:Int × Nat):Option ((Int × Nat) ⊕ (Nat ⊕ (Int × Nat))):=
 cond (decide (s0.2 < v1.1.length))
  (cond (decide (((decodeA v1.1 s0.2).1:Int) < 48))
   (some (.inr (.inl (s0.2 + (decodeA v1.1 s0.2).2))))
   (cond (decide (57 < ((decodeA v1.1 s0.2).1:Int)))
    (some (.inr (.inl (s0.2 + (decodeA v1.1 s0.2).2))))
    (cond (decide (9 < (v1.1.length:Int)))
     (some (.inr (.inl (s0.2 + (decodeA v1.1 s0.2).2))))
     (some (.inl (wrapF .i64 ((wrapF .i64 (10 * s0.1)) + (wrapF .i64 (wrapF .i32 (((decodeA v1.1 s0.2).1:Int) - 48)))),s0.2 + (decodeA v1.1 s0.2).2))))))
  (some (.inr (.inr (s0.1,s0.2))))
def St121_0 (v1:(List UInt8) × Bool) (s0:Int × Nat):ASt:=⟨[(4,.str v1.1,false),(5,.bool v1.2,false),(6,.int .i64 s0.1,false),(16,.ptr 0 0,false)],[.iter v1.1 s0.2]⟩
def Ex121_0 (v1:(List UInt8) × Bool):Nat ⊕ (Int × Nat)→AExit × ASt
 | .inl d=>(.ret,⟨[(2,.int .i64 0,false),(3,.bool false,false)],[.iter v1.1 d]⟩)
 | .inr d=>(.exit 0,⟨[(4,.str v1.1,false),(5,.bool v1.2,false),(6,.int .i64 d.1,false),(16,.ptr 0 0,false),(17,.tup [.bool false],false),(18,.bool false,false)],[.iter v1.1 d.2]⟩)
theorem b121_0 (v1:(List UInt8) × Bool) (s0:Int × Nat) (r) (h:s121_0 v1 s0=some r):stepO prD c121_0 (St121_0 v1) (Ex121_0 v1) s0 r:=by
 unfold s121_0 at h
 rcases cond_split h with ⟨h11,h⟩ | ⟨h11,h⟩
 ·rcases cond_split h with ⟨h12,h⟩ | ⟨h12,h⟩
  ·cases h
   exact stepO_out (by simp only [go_sem,seval,c121_0,St121_0,h11,iter_t h11,h12,Ex121_0] <;> rfl)
  ·rcases cond_split h with ⟨h13,h⟩ | ⟨h13,h⟩
   ·cases h
    exact stepO_out (by simp only [go_sem,seval,c121_0,St121_0,h11,iter_t h11,h12,h13,Ex121_0] <;> rfl)
   ·rcases cond_split h with ⟨h14,h⟩ | ⟨h14,h⟩
    ·cases h
     exact stepO_out (by simp only [go_sem,seval,c121_0,St121_0,h11,iter_t h11,h12,h13,h14,Ex121_0] <;> rfl)
    ·cases h
     exact stepO_in (st':=⟨[(4,.str v1.1,false),(5,.bool v1.2,false),(6,.int .i64 (wrapF .i64 ((wrapF .i64 (10 * s0.1)) + (wrapF .i64 (wrapF .i32 (((decodeA v1.1 s0.2).1:Int) - 48))))),false),(16,.ptr 0 0,false)],[.iter v1.1 (s0.2 + (decodeA v1.1 s0.2).2)]⟩) (by simp only [go_sem,seval,c121_0,St121_0,h11,iter_t h11,h12,h13,h14] <;> rfl) (gc_same (Nat.le_refl _))
 ·cases h
  exact stepO_out (by simp only [go_sem,seval,c121_0,St121_0,h11,iter_f h11,Ex121_0] <;> rfl)
theorem l121_0 (v1:(List UInt8) × Bool) {s0:Int × Nat} {d} (h:itO (s121_0 v1) s0=some d):X prD (.loop c121_0) (St121_0 v1 s0)=some (Ex121_0 v1 d):=X_itO (b121_0 v1) (fun d=>by rcases d with d|d <;> (intro hh; cases hh)) h
noncomputable def f121 (a0:List UInt8):Option (Int × Bool):=
 obind (E146 a0 ([45]:List UInt8)) fun v1=>
 obind (itO (s121_0 v1) (0,0)) fun d15=>match d15 with
  | .inl d17=>
   some (0,false)
  | .inr d18=>
   cond (decide (v1.1=[]))
    (cond v1.2
     (some (wrapF .i64 (0 - d18.1),false))
     (some (d18.1,false)))
    (cond (decide ((v1.1.length:Int)=1))
     (cond v1.2
      (some (wrapF .i64 (0 - d18.1),decide (0 < d18.1)))
      (some (d18.1,true)))
     (obind (idxO v1.1 0) fun v23=>
     cond v1.2
      (cond (decide ((v23.toNat:Int)=48))
       (some (wrapF .i64 (0 - d18.1),false))
       (some (wrapF .i64 (0 - d18.1),decide (0 < d18.1))))
      (some (d18.1,!decide ((v23.toNat:Int)=48)))))
theorem W121 {a0:List UInt8} {r} (h:f121 a0=some r):callIso prD (X prD) 121 [.str a0]=some (.tup [.int .i64 r.1,.bool r.2],false):=by
 unfold f121 at h
 obtain ⟨v1,h2,h⟩:=obind_some h
 have wh2:callIso prD (X prD) 146 [.str a0,.str ([45]:List UInt8)]=some (.tup [.str v1.1,.bool v1.2],false):=M146 h2
 obtain ⟨d15,h16,h⟩:=obind_some h
 rcases d15 with d17 | d18
 ·have wh16:X prD (.loop c121_0) ⟨[(4,.str v1.1,false),(5,.bool v1.2,false),(6,.int .i64 0,false),(16,.ptr 0 0,false)],[.iter v1.1 0]⟩=some (.ret,⟨[(2,.int .i64 0,false),(3,.bool false,false)],[.iter v1.1 d17]⟩):=l121_0 v1 h16
  have hr:(0,false)=r:=Option.some.inj h
  subst hr
  have this:∃ hh,callFn prD (X prD) 121 [.str a0] []=some (.tup [.int .i64 0,.bool false],false,hh):=by
   rw [callFn_at (show prD.fns 121=some c121 from rfl) (by simp)]
   simp only [go_sem,seval,c121,wh2,wh16]
   exact ⟨_,rfl⟩
  obtain ⟨hh,this⟩:=this
  exact callIso_of rfl this (by first | rfl | simp only [go_sem,seval]) (by first | rfl | simp only [go_sem,seval])
 ·have wh16:X prD (.loop c121_0) ⟨[(4,.str v1.1,false),(5,.bool v1.2,false),(6,.int .i64 0,false),(16,.ptr 0 0,false)],[.iter v1.1 0]⟩=some (.exit 0,⟨[(4,.str v1.1,false),(5,.bool v1.2,false),(6,.int .i64 d18.1,false),(16,.ptr 0 0,false),(17,.tup [.bool false],false),(18,.bool false,false)],[.iter v1.1 d18.2]⟩):=l121_0 v1 h16
  rcases cond_split h with ⟨h19,h⟩ | ⟨h19,h⟩
  ·try simp only [h19] at wh16
   rcases cond_split h with ⟨h20,h⟩ | ⟨h20,h⟩
   ·try simp only [h20] at wh16
    have hr:(wrapF .i64 (0 - d18.1),false)=r:=Option.some.inj h
    subst hr
    have this:∃ hh,callFn prD (X prD) 121 [.str a0] []=some (.tup [.int .i64 (wrapF .i64 (0 - d18.1)),.bool false],false,hh):=by
     rw [callFn_at (show prD.fns 121=some c121 from rfl) (by simp)]
     simp only [go_sem,seval,c121,wh2,wh16,h19,h20]
     exact ⟨_,rfl⟩
    obtain ⟨hh,this⟩:=this
    exact callIso_of rfl this (by first | rfl | simp only [go_sem,seval]) (by first | rfl | simp only [go_sem,seval])
   ·try simp only [h20] at wh16
    have hr:(d18.1,false)=r:=Option.some.inj h
    subst hr
    have this:∃ hh,callFn prD (X prD) 121 [.str a0] []=some (.tup [.int .i64 d18.1,.bool false],false,hh):=by
     rw [callFn_at (show prD.fns 121=some c121 from rfl) (by simp)]
     simp only [go_sem,seval,c121,wh2,wh16,h19,h20]
     exact ⟨_,rfl⟩
    obtain ⟨hh,this⟩:=this
    exact callIso_of rfl this (by first | rfl | simp only [go_sem,seval]) (by first | rfl | simp only [go_sem,seval])
  ·try simp only [h19] at wh16
   rcases cond_split h with ⟨h21,h⟩ | ⟨h21,h⟩
   ·try simp only [h21] at wh16
    rcases cond_split h with ⟨h22,h⟩ | ⟨h22,h⟩
    ·try simp only [h22] at wh16
     have hr:(wrapF .i64 (0 - d18.1),decide (0 < d18.1))=r:=Option.some.inj h
     subst hr
     have this:∃ hh,callFn prD (X prD) 121 [.str a0] []=some (.tup [.int .i64 (wrapF .i64 (0 - d18.1)),.bool (decide (0 < d18.1))],false,hh):=by
      rw [callFn_at (show prD.fns 121=some c121 from rfl) (by simp)]
      simp only [go_sem,seval,c121,wh2,wh16,h19,h21,h22]
      exact ⟨_,rfl⟩
     obtain ⟨hh,this⟩:=this
     exact callIso_of rfl this (by first | rfl | simp only [go_sem,seval]) (by first | rfl | simp only [go_sem,seval])
    ·try simp only [h22] at wh16
     have hr:(d18.1,true)=r:=Option.some.inj h
     subst hr
     have this:∃ hh,callFn prD (X prD) 121 [.str a0] []=some (.tup [.int .i64 d18.1,.bool true],false,hh):=by
      rw [callFn_at (show prD.fns 121=some c121 from rfl) (by simp)]
      simp only [go_sem,seval,c121,wh2,wh16,h19,h21,h22]
      exact ⟨_,rfl⟩
     obtain ⟨hh,this⟩:=this
     exact callIso_of rfl this (by first | rfl | simp only [go_sem,seval]) (by first | rfl | simp only [go_sem,seval])
   ·try simp only [h21] at wh16
    obtain ⟨v23,h24,h⟩:=obind_some h
    rcases cond_split h with ⟨h25,h⟩ | ⟨h25,h⟩
    ·try simp only [h25] at wh16
     rcases cond_split h with ⟨h26,h⟩ | ⟨h26,h⟩
     ·try simp only [h26] at wh16
      have hr:(wrapF .i64 (0 - d18.1),false)=r:=Option.some.inj h
      subst hr
      have this:∃ hh,callFn prD (X prD) 121 [.str a0] []=some (.tup [.int .i64 (wrapF .i64 (0 - d18.1)),.bool false],false,hh):=by
       rw [callFn_at (show prD.fns 121=some c121 from rfl) (by simp)]
       simp only [go_sem,seval,c121,wh2,wh16,h19,h21,strIdx_O h24,h25,h26]
       exact ⟨_,rfl⟩
      obtain ⟨hh,this⟩:=this
      exact callIso_of rfl this (by first | rfl | simp only [go_sem,seval]) (by first | rfl | simp only [go_sem,seval])
     ·try simp only [h26] at wh16
      have hr:(wrapF .i64 (0 - d18.1),decide (0 < d18.1))=r:=Option.some.inj h
      subst hr
      have this:∃ hh,callFn prD (X prD) 121 [.str a0] []=some (.tup [.int .i64 (wrapF .i64 (0 - d18.1)),.bool (decide (0 < d18.1))],false,hh):=by
       rw [callFn_at (show prD.fns 121=some c121 from rfl) (by simp)]
       simp only [go_sem,seval,c121,wh2,wh16,h19,h21,strIdx_O h24,h25,h26]
       exact ⟨_,rfl⟩
      obtain ⟨hh,this⟩:=this
      exact callIso_of rfl this (by first | rfl | simp only [go_sem,seval]) (by first | rfl | simp only [go_sem,seval])
    ·try simp only [h25] at wh16
     have hr:(d18.1,!decide ((v23.toNat:Int)=48))=r:=Option.some.inj h
     subst hr
     have this:∃ hh,callFn prD (X prD) 121 [.str a0] []=some (.tup [.int .i64 d18.1,.bool (!decide ((v23.toNat:Int)=48))],false,hh):=by
      rw [callFn_at (show prD.fns 121=some c121 from rfl) (by simp)]
      simp only [go_sem,seval,c121,wh2,wh16,h19,h21,strIdx_O h24,h25]
      exact ⟨_,rfl⟩
     obtain ⟨hh,this⟩:=this
     exact callIso_of rfl this (by first | rfl | simp only [go_sem,seval]) (by first | rfl | simp only [go_sem,seval])
end Go.Z
