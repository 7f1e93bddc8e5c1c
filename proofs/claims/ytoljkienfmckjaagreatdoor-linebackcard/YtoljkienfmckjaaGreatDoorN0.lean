/-
  Lists of texts: appends to a list that is nil.
-/
import Derived.Test.YtoljkienfmckjaaGreatDoorG0m
import Derived.Test.YtoljkienfmckjaaGreatDoorR1
set_option linter.unusedVariables false
set_option linter.unusedSimpArgs false
namespace Go.Z
open Go Go.Abs
variable {h:Heap}
theorem app_vstr_N {b:Nat} {bb:Bool} {x:List UInt8} {o v:Option (List (List UInt8))} (hv:apO o [x]=some v) (hn:o.isNone=true):appR 1 b h none (some (sl 1 vstr o)) (some (.list bb 1 [.str x]))=ifR (decide (b≤4096)) (some ⟨sl 1 vstr v,true,none,h⟩):=app_none (by omega) rfl hn hv
theorem app_vunit_N {b:Nat} {bb:Bool} {t:List UInt8} {y:Option (List Int)} {o v:Option (List GUnit)} (hv:apO o [⟨t,y⟩]=some v) (hn:o.isNone=true):appR 2 b h none (some (sl 2 vunit o)) (some (.list bb 2 [.agg [.str t,sl 1 vint y]]))=ifR (decide (b≤4096)) (some ⟨sl 2 vunit v,true,none,h⟩):=app_none (by omega) rfl hn hv
theorem iter_t {b pos:Nat} {s:List UInt8} (hp:decide (pos < s.length)=true):iterR h b (some (.iter s pos))=newR (setBox h b (.iter s (pos + (decodeA s pos).2))) (.tup [.bool true,.int .i64 pos,.int .i32 (decodeA s pos).1]):=iterR_in (of_decide_eq_true hp)
theorem iter_f {b pos:Nat} {s:List UInt8} (hp:decide (pos < s.length)=false):iterR h b (some (.iter s pos))=some ⟨.tup [.bool false],false,none,h⟩:=iterR_out (of_decide_eq_false hp)
end Go.Z
/-
 LineTexts: the reference's texts: functions that mirror the runs,and the runs (printed by walk.py; seat .ZD).
-/
set_option maxRecDepth 100000
set_option maxHeartbeats 4000000
namespace Go.Z
open Go Go.Abs
noncomputable def s15_0 (a0:List UInt8) (a1:Int) (s0:(Option (List (List UInt8))) × Int × Int × Bool):Option (((Option (List (List UInt8))) × Int × Int × Bool) ⊕ (((Option (List (List UInt8))) × Bool × Int × Int))):=
 cond (decide (s0.2.2.1 < (a0.length:Int)))
  (obind (idxO a0 s0.2.2.1) fun v20=>
  cond (decide ((v20.toNat:Int)=a1))
   (obind (cutO a0 (some s0.2.1) (some s0.2.2.1)) fun v23=>
   cond s0.2.2.2
    (obind (apO s0.1 [v23]) fun v26=>
    some (.inl (v26,wrapF .i64 (s0.2.2.1 + 1),wrapF .i64 (s0.2.2.1 + 1),true)))
    (cond s0.1.isNone
     (obind (apO s0.1 [v23]) fun v29=>
     some (.inl (v29,wrapF .i64 (s0.2.2.1 + 1),wrapF .i64 (s0.2.2.1 + 1),true)))
     (none)))
   (some (.inl (s0.1,s0.2.1,wrapF .i64 (s0.2.2.1 + 1),s0.2.2.2))))
  (some (.inr (s0.1,s0.2.2.2,s0.2.1,s0.2.2.1)))
def St15_0 (a0:List UInt8) (a1:Int) (s0:(Option (List (List UInt8))) × Int × Int × Bool):ASt:=⟨[(0,.str a0,false),(1,.int .u8 a1,false),(5,sl 1 vstr s0.1,s0.2.2.2),(6,.int .i64 s0.2.1,false),(7,.int .i64 s0.2.2.1,false)],[]⟩
def Ex15_0 (a0:List UInt8) (a1:Int) (d:((Option (List (List UInt8))) × Bool × Int × Int)):AExit × ASt:=(.exit 0,⟨[(0,.str a0,false),(1,.int .u8 a1,false),(5,sl 1 vstr d.1,d.2.1),(6,.int .i64 d.2.2.1,false),(7,.int .i64 d.2.2.2,false),(11,.bool false,false)],[]⟩)
theorem b15_0 (a0:List UInt8) (a1:Int) (s0:(Option (List (List UInt8))) × Int × Int × Bool) (r) (h:s15_0 a0 a1 s0=some r):stepO pr c15_0 (St15_0 a0 a1) (Ex15_0 a0 a1) s0 r:=by
 unfold s15_0 at h
 rcases cond_split h with ⟨h19,h⟩ | ⟨h19,h⟩
 ·obtain ⟨v20,h21,h⟩:=obind_some h
  rcases cond_split h with ⟨h22,h⟩ | ⟨h22,h⟩
  ·obtain ⟨v23,h24,h⟩:=obind_some h
   rcases cond_split h with ⟨h25,h⟩ | ⟨h25,h⟩
   ·obtain ⟨v26,h27,h⟩:=obind_some h
    cases h
    exact stepO_in (st':=⟨[(0,.str a0,false),(1,.int .u8 a1,false),(5,sl 1 vstr v26,true),(6,.int .i64 (wrapF .i64 (s0.2.2.1 + 1)),false),(7,.int .i64 (wrapF .i64 (s0.2.2.1 + 1)),false)],[]⟩) (by simp only [go_sem,seval,c15_0,St15_0,h19,strIdx_O h21,h22,strCut_lh h24,h25,app_vstr_O h27] <;> rfl) (gc_same (Nat.le_refl _))
   ·rcases cond_split h with ⟨h28,h⟩ | ⟨h28,h⟩
    ·obtain ⟨v29,h30,h⟩:=obind_some h
     cases h
     exact stepO_in (st':=⟨[(0,.str a0,false),(1,.int .u8 a1,false),(5,sl 1 vstr v29,true),(6,.int .i64 (wrapF .i64 (s0.2.2.1 + 1)),false),(7,.int .i64 (wrapF .i64 (s0.2.2.1 + 1)),false)],[]⟩) (by simp only [go_sem,seval,c15_0,St15_0,h19,strIdx_O h21,h22,strCut_lh h24,h25,h28,app_vstr_N h30 h28] <;> rfl) (gc_same (Nat.le_refl _))
    ·cases h
  ·cases h
   exact stepO_in (st':=⟨[(0,.str a0,false),(1,.int .u8 a1,false),(5,sl 1 vstr s0.1,s0.2.2.2),(6,.int .i64 s0.2.1,false),(7,.int .i64 (wrapF .i64 (s0.2.2.1 + 1)),false)],[]⟩) (by simp only [go_sem,seval,c15_0,St15_0,h19,strIdx_O h21,h22] <;> rfl) (gc_same (Nat.le_refl _))
 ·cases h
  exact stepO_out (by simp only [go_sem,seval,c15_0,St15_0,h19,Ex15_0] <;> rfl)
theorem l15_0 (a0:List UInt8) (a1:Int) {s0:(Option (List (List UInt8))) × Int × Int × Bool} {d} (h:itO (s15_0 a0 a1) s0=some d):X pr (.loop c15_0) (St15_0 a0 a1 s0)=some (Ex15_0 a0 a1 d):=X_itO (b15_0 a0 a1) (fun d hh=>by cases hh) h
noncomputable def f15 (a0:List UInt8) (a1:Int):Option (Option (List (List UInt8))):=
 obind (itO (s15_0 a0 a1) (none,0,0,false)) fun d31=>
 obind (cutO a0 (some d31.2.2.1) none) fun v33=>
 cond d31.2.1
  (obind (apO d31.1 [v33]) fun v36=>
  some v36)
  (cond d31.1.isNone
   (obind (apO d31.1 [v33]) fun v39=>
   some v39)
   (none))
theorem W15 {a0:List UInt8} {a1:Int} {r} (h:f15 a0 a1=some r):callIso pr (X pr) 15 [.str a0,.int .u8 a1]=some (sl 1 vstr r,true):=by
 unfold f15 at h
 obtain ⟨d31,h32,h⟩:=obind_some h
 have wh32:X pr (.loop c15_0) ⟨[(0,.str a0,false),(1,.int .u8 a1,false),(5,.list true 0 [],false),(6,.int .i64 0,false),(7,.int .i64 0,false)],[]⟩=some (.exit 0,⟨[(0,.str a0,false),(1,.int .u8 a1,false),(5,sl 1 vstr d31.1,d31.2.1),(6,.int .i64 d31.2.2.1,false),(7,.int .i64 d31.2.2.2,false),(11,.bool false,false)],[]⟩):=l15_0 a0 a1 h32
 obtain ⟨v33,h34,h⟩:=obind_some h
 rcases cond_split h with ⟨h35,h⟩ | ⟨h35,h⟩
 ·obtain ⟨v36,h37,h⟩:=obind_some h
  have hr:v36=r:=Option.some.inj h
  subst hr
  have this:∃ hh,callFn pr (X pr) 15 [.str a0,.int .u8 a1] []=some (sl 1 vstr v36,true,hh):=by
   rw [callFn_at (show pr.fns 15=some c15 from rfl) (by simp)]
   simp only [go_sem,seval,c15,wh32,strCut_l h34,h35,app_vstr_O h37]
   exact ⟨_,rfl⟩
  obtain ⟨hh,this⟩:=this
  exact callIso_of_dyn rfl this (by first | rfl | simp only [go_sem,seval]) (by first | rfl | simp only [go_sem,seval]) (by first | rfl | simp only [go_sem,seval])
 ·rcases cond_split h with ⟨h38,h⟩ | ⟨h38,h⟩
  ·obtain ⟨v39,h40,h⟩:=obind_some h
   have hr:v39=r:=Option.some.inj h
   subst hr
   have this:∃ hh,callFn pr (X pr) 15 [.str a0,.int .u8 a1] []=some (sl 1 vstr v39,true,hh):=by
    rw [callFn_at (show pr.fns 15=some c15 from rfl) (by simp)]
    simp only [go_sem,seval,c15,wh32,strCut_l h34,h35,h38,app_vstr_N h40 h38]
    exact ⟨_,rfl⟩
   obtain ⟨hh,this⟩:=this
   exact callIso_of_dyn rfl this (by first | rfl | simp only [go_sem,seval]) (by first | rfl | simp only [go_sem,seval]) (by first | rfl | simp only [go_sem,seval])
  ·cases h
end Go.Z
