/-
  Lists of texts: appends to a list that is nil.
-/
import Derived.Test.YtlonjmhacojkjaaGreatDoorG0m
import Derived.Test.YtlonjmhacojkjaaGreatDoorR1
import Derived.Test.YtlonjmhacojkjaaGreatDoorL5
set_option linter.unusedVariables false
set_option linter.unusedSimpArgs false
namespace Go.Z
open Go Go.Abs
variable {h:Heap}
theorem app_vstr_N {b:Nat} {bb:Bool} {x:List UInt8} {o v:Option (List (List UInt8))} (hv:apO o [x]=some v) (hn:o.isNone=true):appR 1 b h none (some (sl 1 vstr o)) (some (.list bb 1 [.str x]))=ifR (decide (b≤4096)) (some ⟨sl 1 vstr v,true,none,h⟩):=app_none (by omega) rfl hn hv
theorem app_vunit_N {b:Nat} {bb:Bool} {t:List UInt8} {y:Option (List Int)} {o v:Option (List GUnit)} (hv:apO o [⟨t,y⟩]=some v) (hn:o.isNone=true):appR 2 b h none (some (sl 2 vunit o)) (some (.list bb 2 [.agg [.str t,sl 1 vint y]]))=ifR (decide (b≤4096)) (some ⟨sl 2 vunit v,true,none,h⟩):=app_none (by omega) rfl hn hv
theorem iter_t {b pos:Nat} {s:List UInt8} (hp:decide (pos < s.length)=true):iterR h b (some (.iter s pos))=newR (setBox h b (.iter s (pos + (decodeA s pos).2))) (.tup [.bool true,.int .i64 pos,.int .i32 (decodeA s pos).1]):=iterR_in (of_decide_eq_true hp)
theorem iter_f {b pos:Nat} {s:List UInt8} (hp:decide (pos < s.length)=false):iterR h b (some (.iter s pos))=some ⟨.tup [.bool false],false,none,h⟩:=iterR_out (of_decide_eq_false hp)
end Go.Z
/-
 LineTexts: the reference's Print and Parse: functions that mirror the runs,and the runs (printed by walk.py; seat .ZD).
-/
set_option maxRecDepth 100000
set_option maxHeartbeats 4000000
namespace Go.Z
open Go Go.Abs
noncomputable def s9_0 (s1000:Int × (List UInt8)):Option ((Int × (List UInt8)) ⊕ ((Int × (List UInt8)))):=
 cond (decide (0 < s1000.1))
  (obind (remO s1000.1 10) fun v25=>
  obind (catO ((Utf8.encode (wrapF .i32 (wrapF .i64 (48 + v25)))).data.toList) s1000.2) fun v27=>
  obind (quoO .i64 s1000.1 10) fun v29=>
  some (.inl (v29,v27)))
  (some (.inr (s1000.1,s1000.2)))
def St9_0 (s1000:Int × (List UInt8)):ASt:=⟨[(0,.int .i64 s1000.1,false),(3,.str s1000.2,false)],[]⟩
def Ex9_0 (d:(Int × (List UInt8))):AExit × ASt:=(.exit 0,⟨[(0,.int .i64 d.1,false),(3,.str d.2,false),(18,.bool false,false)],[]⟩)
theorem b9_0 (s1000:Int × (List UInt8)) (r) (h:s9_0 s1000=some r):stepO pr c9_0 (St9_0) (Ex9_0) s1000 r:=by
 unfold s9_0 at h
 rcases cond_split h with ⟨h24,h⟩ | ⟨h24,h⟩
 ·obtain ⟨v25,h26,h⟩:=obind_some h
  obtain ⟨v27,h28,h⟩:=obind_some h
  obtain ⟨v29,h30,h⟩:=obind_some h
  cases h
  exact stepO_in (st':=⟨[(0,.int .i64 v29,false),(3,.str v27,false)],[]⟩) (by simp only [go_sem,seval,c9_0,St9_0,h24,b_rem_O h26,b_cat_O h28,b_quo_O h30] <;> rfl) (gc_same (Nat.le_refl _))
 ·cases h
  exact stepO_out (by simp only [go_sem,seval,c9_0,St9_0,h24,Ex9_0] <;> rfl)
theorem l9_0 {s1000:Int × (List UInt8)} {d} (h:itO (s9_0) s1000=some d):X pr (.loop c9_0) (St9_0 s1000)=some (Ex9_0 d):=X_itO (b9_0) (fun d hh=>by cases hh) h
noncomputable def F9 (rec:Int→Option (List UInt8)) (a0:Int):Option (List UInt8):=
 cond (decide (a0 < 0))
  (obind (rec (wrapF .i64 (0 - a0))) fun v2=>
  obind (catO ([45]:List UInt8) v2) fun v4=>
  some v4)
  (obind (remO a0 10) fun v6=>
  obind (quoO .i64 a0 10) fun v8=>
  obind (itO (s9_0) (v8,(Utf8.encode (wrapF .i32 (wrapF .i64 (48 + v6)))).data.toList)) fun d31=>
  some d31.2)
theorem WF95 {rec:Int→Option (List UInt8)} (hrec:∀ {a0:Int} {r},rec a0=some r→callIso pr (X pr) 9 [.int .i64 a0]=some (.str r,false)) {a0:Int} {r} (h:F9 rec a0=some r):callIso pr (X pr) 9 [.int .i64 a0]=some (.str r,false):=by
 unfold F9 at h
 rcases cond_split h with ⟨h1,h⟩ | ⟨h1,h⟩
 ·obtain ⟨v2,h3,h⟩:=obind_some h
  have wh3:callIso pr (X pr) 9 [.int .i64 (wrapF .i64 (0 - a0))]=some (.str v2,false):=hrec h3
  obtain ⟨v4,h5,h⟩:=obind_some h
  have hr:v4=r:=Option.some.inj h
  subst hr
  have this:∃ hh,callFn pr (X pr) 9 [.int .i64 a0] []=some (.str v4,false,hh):=by
   rw [callFn_at (show pr.fns 9=some c9 from rfl) (by simp)]
   simp only [go_sem,seval,c9,h1,wh3,b_cat_O h5]
   exact ⟨_,rfl⟩
  obtain ⟨hh,this⟩:=this
  exact callIso_of rfl this (by first | rfl | simp only [go_sem,seval]) (by first | rfl | simp only [go_sem,seval])
 ·obtain ⟨v6,h7,h⟩:=obind_some h
  obtain ⟨v8,h9,h⟩:=obind_some h
  obtain ⟨d31,h32,h⟩:=obind_some h
  have wh32:X pr (.loop c9_0) ⟨[(0,.int .i64 v8,false),(3,.str ((Utf8.encode (wrapF .i32 (wrapF .i64 (48 + v6)))).data.toList),false)],[]⟩=some (.exit 0,⟨[(0,.int .i64 d31.1,false),(3,.str d31.2,false),(18,.bool false,false)],[]⟩):=l9_0 h32
  have hr:d31.2=r:=Option.some.inj h
  subst hr
  have this:∃ hh,callFn pr (X pr) 9 [.int .i64 a0] []=some (.str d31.2,false,hh):=by
   rw [callFn_at (show pr.fns 9=some c9 from rfl) (by simp)]
   simp only [go_sem,seval,c9,h1,b_rem_O h7,b_quo_O h9,wh32]
   exact ⟨_,rfl⟩
  obtain ⟨hh,this⟩:=this
  exact callIso_of rfl this (by first | rfl | simp only [go_sem,seval]) (by first | rfl | simp only [go_sem,seval])
noncomputable def f9:Nat→Int→Option (List UInt8)
 | 0=>fun _=>none
 | n + 1=>F9 (f9 n)
theorem W9:∀ (n:Nat) {a0:Int} {r} (h:f9 n a0=some r),callIso pr (X pr) 9 [.int .i64 a0]=some (.str r,false)
 | 0,_,_,h=>by cases h
 | n + 1,_,_,h=>WF95 (W9 n) h
end Go.Z
