/-
  LineTexts: the reference's Print and Parse: functions that mirror the runs, and the runs (printed by walk.py; seat .ZD).
-/
import Derived.Test.YtoljkienfmckjaaGreatDoorN0
import Derived.Test.YtoljkienfmckjaaGreatDoorR1
import Derived.Test.YtoljkienfmckjaaGreatDoorG0m
set_option linter.unusedVariables false
set_option linter.unusedSimpArgs false
set_option maxRecDepth 100000
set_option maxHeartbeats 4000000
namespace Go.Z
open Go Go.Abs
noncomputable def s95_0 (s0:Int × (List UInt8)):Option ((Int × (List UInt8)) ⊕ ((Int × (List UInt8)))):=
 cond (decide (0 < s0.1))
  (obind (remO s0.1 10) fun v25=>
  obind (catO ((Utf8.encode (wrapF .i32 (wrapF .i64 (48 + v25)))).data.toList) s0.2) fun v27=>
  obind (quoO .i64 s0.1 10) fun v29=>
  some (.inl (v29,v27)))
  (some (.inr (s0.1,s0.2)))
def St95_0 (s0:Int × (List UInt8)):ASt:=⟨[(0,.int .i64 s0.1,false),(3,.str s0.2,false)],[]⟩
def Ex95_0 (d:(Int × (List UInt8))):AExit × ASt:=(.exit 0,⟨[(0,.int .i64 d.1,false),(3,.str d.2,false),(18,.bool false,false)],[]⟩)
theorem b95_0 (s0:Int × (List UInt8)) (r) (h:s95_0 s0=some r):stepO pr c95_0 (St95_0) (Ex95_0) s0 r:=by
 unfold s95_0 at h
 rcases cond_split h with ⟨h24,h⟩ | ⟨h24,h⟩
 ·obtain ⟨v25,h26,h⟩:=obind_some h
  obtain ⟨v27,h28,h⟩:=obind_some h
  obtain ⟨v29,h30,h⟩:=obind_some h
  cases h
  exact stepO_in (st':=⟨[(0,.int .i64 v29,false),(3,.str v27,false)],[]⟩) (by simp only [go_sem,seval,c95_0,St95_0,h24,b_rem_O h26,b_cat_O h28,b_quo_O h30] <;> rfl) (gc_same (Nat.le_refl _))
 ·cases h
  exact stepO_out (by simp only [go_sem,seval,c95_0,St95_0,h24,Ex95_0] <;> rfl)
theorem l95_0 {s0:Int × (List UInt8)} {d} (h:itO (s95_0) s0=some d):X pr (.loop c95_0) (St95_0 s0)=some (Ex95_0 d):=X_itO (b95_0) (fun d hh=>by cases hh) h
noncomputable def F95 (rec:Int→Option (List UInt8)) (a0:Int):Option (List UInt8):=
 cond (decide (a0 < 0))
  (obind (rec (wrapF .i64 (0 - a0))) fun v2=>
  obind (catO ([45]:List UInt8) v2) fun v4=>
  some v4)
  (obind (remO a0 10) fun v6=>
  obind (quoO .i64 a0 10) fun v8=>
  obind (itO (s95_0) (v8,(Utf8.encode (wrapF .i32 (wrapF .i64 (48 + v6)))).data.toList)) fun d31=>
  some d31.2)
theorem WF95 {rec:Int→Option (List UInt8)} (hrec:∀ {a0:Int} {r},rec a0=some r→callIso pr (X pr) 95 [.int .i64 a0]=some (.str r,false)) {a0:Int} {r} (h:F95 rec a0=some r):callIso pr (X pr) 95 [.int .i64 a0]=some (.str r,false):=by
 unfold F95 at h
 rcases cond_split h with ⟨h1,h⟩ | ⟨h1,h⟩
 ·obtain ⟨v2,h3,h⟩:=obind_some h
  have wh3:callIso pr (X pr) 95 [.int .i64 (wrapF .i64 (0 - a0))]=some (.str v2,false):=hrec h3
  obtain ⟨v4,h5,h⟩:=obind_some h
  have hr:v4=r:=Option.some.inj h
  subst hr
  have this:∃ hh,callFn pr (X pr) 95 [.int .i64 a0] []=some (.str v4,false,hh):=by
   rw [callFn_at (show pr.fns 95=some c95 from rfl) (by simp)]
   simp only [go_sem,seval,c95,h1,wh3,b_cat_O h5]
   exact ⟨_,rfl⟩
  obtain ⟨hh,this⟩:=this
  exact callIso_of rfl this (by first | rfl | simp only [go_sem,seval]) (by first | rfl | simp only [go_sem,seval])
 ·obtain ⟨v6,h7,h⟩:=obind_some h
  obtain ⟨v8,h9,h⟩:=obind_some h
  obtain ⟨d31,h32,h⟩:=obind_some h
  have wh32:X pr (.loop c95_0) ⟨[(0,.int .i64 v8,false),(3,.str ((Utf8.encode (wrapF .i32 (wrapF .i64 (48 + v6)))).data.toList),false)],[]⟩=some (.exit 0,⟨[(0,.int .i64 d31.1,false),(3,.str d31.2,false),(18,.bool false,false)],[]⟩):=l95_0 h32
  have hr:d31.2=r:=Option.some.inj h
  subst hr
  have this:∃ hh,callFn pr (X pr) 95 [.int .i64 a0] []=some (.str d31.2,false,hh):=by
   rw [callFn_at (show pr.fns 95=some c95 from rfl) (by simp)]
   simp only [go_sem,seval,c95,h1,b_rem_O h7,b_quo_O h9,wh32]
   exact ⟨_,rfl⟩
  obtain ⟨hh,this⟩:=this
  exact callIso_of rfl this (by first | rfl | simp only [go_sem,seval]) (by first | rfl | simp only [go_sem,seval])
noncomputable def f95:Nat→Int→Option (List UInt8)
 | 0=>fun _=>none
 | n + 1=>F95 (f95 n)
theorem W95:∀ (n:Nat) {a0:Int} {r} (h:f95 n a0=some r),callIso pr (X pr) 95 [.int .i64 a0]=some (.str r,false)
 | 0,_,_,h=>by cases h
 | n + 1,_,_,h=>WF95 (W95 n) h
end Go.Z
/-
 LineTexts: the reference's Print and Parse: functions that mirror the runs,and the runs (printed by walk.py; seat .ZD).
-/
namespace Go.Z
open Go Go.Abs
noncomputable def f49 (a0:Int):Option (List UInt8):=
 cond (decide (a0 < 0))
  (obind (f95 1 (wrapF .i64 (0 - a0))) fun v2=>
  obind (catO ([45]:List UInt8) v2) fun v4=>
  some v4)
  (obind (f95 1 a0) fun v6=>
  some v6)
theorem W49 {a0:Int} {r} (h:f49 a0=some r):callIso pr (X pr) 49 [.int .i64 a0]=some (.str r,false):=by
 unfold f49 at h
 rcases cond_split h with ⟨h1,h⟩ | ⟨h1,h⟩
 ·obtain ⟨v2,h3,h⟩:=obind_some h
  have wh3:callIso pr (X pr) 95 [.int .i64 (wrapF .i64 (0 - a0))]=some (.str v2,false):=W95 1 h3
  obtain ⟨v4,h5,h⟩:=obind_some h
  have hr:v4=r:=Option.some.inj h
  subst hr
  have this:∃ hh,callFn pr (X pr) 49 [.int .i64 a0] []=some (.str v4,false,hh):=by
   rw [callFn_at (show pr.fns 49=some c49 from rfl) (by simp)]
   simp only [go_sem,seval,c49,h1,wh3,b_cat_O h5]
   exact ⟨_,rfl⟩
  obtain ⟨hh,this⟩:=this
  exact callIso_of rfl this (by first | rfl | simp only [go_sem,seval]) (by first | rfl | simp only [go_sem,seval])
 ·obtain ⟨v6,h7,h⟩:=obind_some h
  have wh7:callIso pr (X pr) 95 [.int .i64 a0]=some (.str v6,false):=W95 1 h7
  have hr:v6=r:=Option.some.inj h
  subst hr
  have this:∃ hh,callFn pr (X pr) 49 [.int .i64 a0] []=some (.str v6,false,hh):=by
   rw [callFn_at (show pr.fns 49=some c49 from rfl) (by simp)]
   simp only [go_sem,seval,c49,h1,wh7]
   exact ⟨_,rfl⟩
  obtain ⟨hh,this⟩:=this
  exact callIso_of rfl this (by first | rfl | simp only [go_sem,seval]) (by first | rfl | simp only [go_sem,seval])
noncomputable def s11_1 (a0:Option (List GUnit)) (s0:(List UInt8) × Int) (s1:(List UInt8) × Int):Option (((List UInt8) × Int) ⊕ (((List UInt8) × Int))):=
 obind (idxO (a0.getD []) s0.2) fun v112=>
 cond (decide (s1.2 < ((v112.values.getD []).length:Int)))
  (obind (catO s1.1 ([32]:List UInt8)) fun v115=>
  obind (idxO (v112.values.getD []) s1.2) fun v117=>
  obind (f49 v117) fun v119=>
  obind (catO v115 v119) fun v121=>
  some (.inl (v121,wrapF .i64 (s1.2 + 1))))
  (some (.inr (s1.1,s1.2)))
def St11_1 (a0:Option (List GUnit)) (s0:(List UInt8) × Int) (s1:(List UInt8) × Int):ASt:=⟨[(0,sl 2 vunit a0,false),(3,.str s1.1,false),(4,.int .i64 s0.2,false),(5,.int .i64 s1.2,false)],[]⟩
def Ex11_1 (a0:Option (List GUnit)) (s0:(List UInt8) × Int) (d:((List UInt8) × Int)):AExit × ASt:=(.exit 2,⟨[(0,sl 2 vunit a0,false),(3,.str d.1,false),(4,.int .i64 s0.2,false),(5,.int .i64 d.2,false),(26,.bool false,false)],[]⟩)
theorem b11_1 (a0:Option (List GUnit)) (s0:(List UInt8) × Int) (s1:(List UInt8) × Int) (r) (h:s11_1 a0 s0 s1=some r):stepO pr c11_1 (St11_1 a0 s0) (Ex11_1 a0 s0) s1 r:=by
 unfold s11_1 at h
 obtain ⟨v112,h113,h⟩:=obind_some h
 rcases cond_split h with ⟨h114,h⟩ | ⟨h114,h⟩
 ·obtain ⟨v115,h116,h⟩:=obind_some h
  obtain ⟨v117,h118,h⟩:=obind_some h
  obtain ⟨v119,h120,h⟩:=obind_some h
  have wh120:callIso pr (X pr) 49 [.int .i64 v117]=some (.str v119,false):=W49 h120
  obtain ⟨v121,h122,h⟩:=obind_some h
  cases h
  exact stepO_in (st':=⟨[(0,sl 2 vunit a0,false),(3,.str v121,false),(4,.int .i64 s0.2,false),(5,.int .i64 (wrapF .i64 (s1.2 + 1)),false)],[]⟩) (by simp only [go_sem,seval,c11_1,St11_1,idxR_O h113,h114,b_cat_O h116,idxR_O h118,wh120,b_cat_O h122] <;> rfl) (gc_same (Nat.le_refl _))
 ·cases h
  exact stepO_out (by simp only [go_sem,seval,c11_1,St11_1,idxR_O h113,h114,Ex11_1] <;> rfl)
theorem l11_1 (a0:Option (List GUnit)) (s0:(List UInt8) × Int) {s1:(List UInt8) × Int} {d} (h:itO (s11_1 a0 s0) s1=some d):X pr (.loop c11_1) (St11_1 a0 s0 s1)=some (Ex11_1 a0 s0 d):=X_itO (b11_1 a0 s0) (fun d hh=>by cases hh) h
noncomputable def s11_0 (a0:Option (List GUnit)) (s0:(List UInt8) × Int):Option (((List UInt8) × Int) ⊕ (((List UInt8) × Int))):=
 cond (decide (s0.2 < ((a0.getD []).length:Int)))
  (obind (idxO (a0.getD []) s0.2) fun v86=>
  obind (catO s0.1 v86.serial) fun v88=>
  obind (itO (s11_1 a0 s0) (v88,0)) fun d123=>
  obind (catO d123.1 ([10]:List UInt8)) fun v125=>
  some (.inl (v125,wrapF .i64 (s0.2 + 1))))
  (some (.inr (s0.1,s0.2)))
def St11_0 (a0:Option (List GUnit)) (s0:(List UInt8) × Int):ASt:=⟨[(0,sl 2 vunit a0,false),(3,.str s0.1,false),(4,.int .i64 s0.2,false)],[]⟩
def Ex11_0 (a0:Option (List GUnit)) (d:((List UInt8) × Int)):AExit × ASt:=(.exit 0,⟨[(0,sl 2 vunit a0,false),(3,.str d.1,false),(4,.int .i64 d.2,false),(9,.bool false,false)],[]⟩)
theorem b11_0 (a0:Option (List GUnit)) (s0:(List UInt8) × Int) (r) (h:s11_0 a0 s0=some r):stepO pr c11_0 (St11_0 a0) (Ex11_0 a0) s0 r:=by
 unfold s11_0 at h
 rcases cond_split h with ⟨h85,h⟩ | ⟨h85,h⟩
 ·obtain ⟨v86,h87,h⟩:=obind_some h
  obtain ⟨v88,h89,h⟩:=obind_some h
  obtain ⟨d123,h124,h⟩:=obind_some h
  have wh124:X pr (.loop c11_1) ⟨[(0,sl 2 vunit a0,false),(3,.str v88,false),(4,.int .i64 s0.2,false),(5,.int .i64 0,false)],[]⟩=some (.exit 2,⟨[(0,sl 2 vunit a0,false),(3,.str d123.1,false),(4,.int .i64 s0.2,false),(5,.int .i64 d123.2,false),(26,.bool false,false)],[]⟩):=l11_1 a0 s0 h124
  obtain ⟨v125,h126,h⟩:=obind_some h
  cases h
  exact stepO_in (st':=⟨[(0,sl 2 vunit a0,false),(3,.str v125,false),(4,.int .i64 (wrapF .i64 (s0.2 + 1)),false)],[]⟩) (by simp only [go_sem,seval,c11_0,St11_0,h85,idxR_O h87,b_cat_O h89,wh124,b_cat_O h126] <;> rfl) (gc_same (Nat.le_refl _))
 ·cases h
  exact stepO_out (by simp only [go_sem,seval,c11_0,St11_0,h85,Ex11_0] <;> rfl)
theorem l11_0 (a0:Option (List GUnit)) {s0:(List UInt8) × Int} {d} (h:itO (s11_0 a0) s0=some d):X pr (.loop c11_0) (St11_0 a0 s0)=some (Ex11_0 a0 d):=X_itO (b11_0 a0) (fun d hh=>by cases hh) h
noncomputable def f11 (a0:Option (List GUnit)):Option (List UInt8):=
 obind (itO (s11_0 a0) ([],0)) fun d127=>
 some d127.1
theorem W11 {a0:Option (List GUnit)} {r} (h:f11 a0=some r):callIso pr (X pr) 11 [sl 2 vunit a0]=some (.str r,false):=by
 unfold f11 at h
 obtain ⟨d127,h128,h⟩:=obind_some h
 have wh128:X pr (.loop c11_0) ⟨[(0,sl 2 vunit a0,false),(3,.str [],false),(4,.int .i64 0,false)],[]⟩=some (.exit 0,⟨[(0,sl 2 vunit a0,false),(3,.str d127.1,false),(4,.int .i64 d127.2,false),(9,.bool false,false)],[]⟩):=l11_0 a0 h128
 have hr:d127.1=r:=Option.some.inj h
 subst hr
 have this:∃ hh,callFn pr (X pr) 11 [sl 2 vunit a0] []=some (.str d127.1,false,hh):=by
  rw [callFn_at (show pr.fns 11=some c11 from rfl) (by simp)]
  simp only [go_sem,seval,c11,wh128]
  exact ⟨_,rfl⟩
 obtain ⟨hh,this⟩:=this
 exact callIso_of rfl this (by first | rfl | simp only [go_sem,seval]) (by first | rfl | simp only [go_sem,seval])
noncomputable def s12_1 (v2:Option (List (List UInt8))) (s0:(Option (List GUnit)) × Int × Bool) (v123:Option (List (List UInt8))) (v126:List UInt8) (s1:Int × (Option (List Int)) × Bool):Option ((Int × (Option (List Int)) × Bool) ⊕ (((Option (List Int)) × Bool) ⊕ (Int × (Option (List Int)) × Bool))):=
 cond (decide (s1.1 < ((v123.getD []).length:Int)))
  (obind (idxO (v123.getD []) s1.1) fun v148=>
  obind (f50 v148) fun v150=>
  cond v150.2
   (cond s1.2.2
    (obind (apO s1.2.1 [v150.1]) fun v154=>
    some (.inl (wrapF .i64 (s1.1 + 1),v154,true)))
    (cond s1.2.1.isNone
     (obind (apO s1.2.1 [v150.1]) fun v157=>
     some (.inl (wrapF .i64 (s1.1 + 1),v157,true)))
     (none)))
   (some (.inr (.inl (s1.2.1,s1.2.2)))))
  (some (.inr (.inr (s1.1,s1.2.1,s1.2.2))))
def St12_1 (v2:Option (List (List UInt8))) (s0:(Option (List GUnit)) × Int × Bool) (v123:Option (List (List UInt8))) (v126:List UInt8) (s1:Int × (Option (List Int)) × Bool):ASt:=⟨[(5,sl 2 vunit s0.1,s0.2.2),(6,sl 1 vstr v2,true),(7,.int .i64 s0.2.1,false),(8,sl 1 vstr v123,true),(9,.ptr 0 0,false),(10,.int .i64 s1.1,false)],[.cells [(.str v126,false),(sl 1 vint s1.2.1,s1.2.2)]]⟩
def Ex12_1 (v2:Option (List (List UInt8))) (s0:(Option (List GUnit)) × Int × Bool) (v123:Option (List (List UInt8))) (v126:List UInt8):((Option (List Int)) × Bool) ⊕ (Int × (Option (List Int)) × Bool)→AExit × ASt
 | .inl d=>(.ret,⟨[(2,.list true 0 [],false),(3,.int .i64 s0.2.1,false),(4,.int .i64 26,false)],[.cells [(.str v126,false),(sl 1 vint d.1,d.2)]]⟩)
 | .inr d=>(.exit 2,⟨[(5,sl 2 vunit s0.1,s0.2.2),(6,sl 1 vstr v2,true),(7,.int .i64 s0.2.1,false),(8,sl 1 vstr v123,true),(9,.ptr 0 0,false),(10,.int .i64 d.1,false),(58,.bool false,false)],[.cells [(.str v126,false),(sl 1 vint d.2.1,d.2.2)]]⟩)
theorem b12_1 (v2:Option (List (List UInt8))) (s0:(Option (List GUnit)) × Int × Bool) (v123:Option (List (List UInt8))) (v126:List UInt8) (s1:Int × (Option (List Int)) × Bool) (r) (h:s12_1 v2 s0 v123 v126 s1=some r):stepO pr c12_1 (St12_1 v2 s0 v123 v126) (Ex12_1 v2 s0 v123 v126) s1 r:=by
 unfold s12_1 at h
 rcases cond_split h with ⟨h147,h⟩ | ⟨h147,h⟩
 ·obtain ⟨v148,h149,h⟩:=obind_some h
  obtain ⟨v150,h151,h⟩:=obind_some h
  have wh151:callIso pr (X pr) 50 [.str v148]=some (.tup [.int .i64 v150.1,.bool v150.2],false):=W50 h151
  rcases cond_split h with ⟨h152,h⟩ | ⟨h152,h⟩
  ·rcases cond_split h with ⟨h153,h⟩ | ⟨h153,h⟩
   ·obtain ⟨v154,h155,h⟩:=obind_some h
    cases h
    exact stepO_in (st':=⟨[(5,sl 2 vunit s0.1,s0.2.2),(6,sl 1 vstr v2,true),(7,.int .i64 s0.2.1,false),(8,sl 1 vstr v123,true),(9,.ptr 0 0,false),(10,.int .i64 (wrapF .i64 (s1.1 + 1)),false)],[.cells [(.str v126,false),(sl 1 vint v154,true)]]⟩) (by simp only [go_sem,seval,c12_1,St12_1,h147,idxR_O h149,wh151,h152,h153,app_vint_O h155] <;> rfl) (gc_same (Nat.le_refl _))
   ·rcases cond_split h with ⟨h156,h⟩ | ⟨h156,h⟩
    ·obtain ⟨v157,h158,h⟩:=obind_some h
     cases h
     exact stepO_in (st':=⟨[(5,sl 2 vunit s0.1,s0.2.2),(6,sl 1 vstr v2,true),(7,.int .i64 s0.2.1,false),(8,sl 1 vstr v123,true),(9,.ptr 0 0,false),(10,.int .i64 (wrapF .i64 (s1.1 + 1)),false)],[.cells [(.str v126,false),(sl 1 vint v157,true)]]⟩) (by simp only [go_sem,seval,c12_1,St12_1,h147,idxR_O h149,wh151,h152,h153,h156,app_vint_N h158 h156] <;> rfl) (gc_same (Nat.le_refl _))
    ·cases h
  ·cases h
   exact stepO_out (by simp only [go_sem,seval,c12_1,St12_1,h147,idxR_O h149,wh151,h152,Ex12_1] <;> rfl)
 ·cases h
  exact stepO_out (by simp only [go_sem,seval,c12_1,St12_1,h147,Ex12_1] <;> rfl)
theorem l12_1 (v2:Option (List (List UInt8))) (s0:(Option (List GUnit)) × Int × Bool) (v123:Option (List (List UInt8))) (v126:List UInt8) {s1:Int × (Option (List Int)) × Bool} {d} (h:itO (s12_1 v2 s0 v123 v126) s1=some d):X pr (.loop c12_1) (St12_1 v2 s0 v123 v126 s1)=some (Ex12_1 v2 s0 v123 v126 d):=X_itO (b12_1 v2 s0 v123 v126) (fun d=>by rcases d with d|d <;> (intro hh; cases hh)) h
noncomputable def s12_0 (v2:Option (List (List UInt8))) (s0:(Option (List GUnit)) × Int × Bool):Option (((Option (List GUnit)) × Int × Bool) ⊕ (Int ⊕ (Int × (List UInt8) × (Option (List Int)) × Bool) ⊕ ((Option (List GUnit)) × Bool × Int))):=
 cond (decide (s0.2.1 < ((v2.getD []).length:Int)))
  (cond (decide (s0.2.1=(wrapF .i64 (((v2.getD []).length:Int) - 1))))
   (obind (idxO (v2.getD []) s0.2.1) fun v118=>
   cond (decide (v118=[]))
    (some (.inl (s0.1,wrapF .i64 (s0.2.1 + 1),s0.2.2)))
    (some (.inr (.inl s0.2.1))))
   (obind (idxO (v2.getD []) s0.2.1) fun v121=>
   obind (f15 v121 32) fun v123=>
   cond (decide (((v123.getD []).length:Int) < 2))
    (some (.inr (.inl s0.2.1)))
    (obind (idxO (v123.getD []) 0) fun v126=>
    cond (decide (v126=[]))
     (some (.inr (.inl s0.2.1)))
     (obind (itO (s12_1 v2 s0 v123 v126) (1,none,false)) fun d159=>match d159 with
      | .inl d161=>
       some (.inr (.inr (.inl (s0.2.1,v126,d161.1,d161.2))))
      | .inr d162=>
       cond s0.2.2
        (obind (apO s0.1 [⟨v126,d162.2.1⟩]) fun v164=>
        some (.inl (v164,wrapF .i64 (s0.2.1 + 1),true)))
        (cond s0.1.isNone
         (obind (apO s0.1 [⟨v126,d162.2.1⟩]) fun v167=>
         some (.inl (v167,wrapF .i64 (s0.2.1 + 1),true)))
         (none))))))
  (some (.inr (.inr (.inr (s0.1,s0.2.2,s0.2.1)))))
def St12_0 (v2:Option (List (List UInt8))) (s0:(Option (List GUnit)) × Int × Bool):ASt:=⟨[(5,sl 2 vunit s0.1,s0.2.2),(6,sl 1 vstr v2,true),(7,.int .i64 s0.2.1,false)],[]⟩
def Ex12_0 (v2:Option (List (List UInt8))):Int ⊕ (Int × (List UInt8) × (Option (List Int)) × Bool) ⊕ ((Option (List GUnit)) × Bool × Int)→AExit × ASt
 | .inl d=>(.ret,⟨[(2,.list true 0 [],false),(3,.int .i64 d,false),(4,.int .i64 26,false)],[]⟩)
 | .inr (.inl d)=>(.ret,⟨[(2,.list true 0 [],false),(3,.int .i64 d.1,false),(4,.int .i64 26,false)],[.cells [(.str d.2.1,false),(sl 1 vint d.2.2.1,d.2.2.2)]]⟩)
 | .inr (.inr d)=>(.exit 0,⟨[(5,sl 2 vunit d.1,d.2.1),(6,sl 1 vstr v2,true),(7,.int .i64 d.2.2,false),(22,.bool false,false)],[]⟩)
theorem b12_0 (v2:Option (List (List UInt8))) (s0:(Option (List GUnit)) × Int × Bool) (r) (h:s12_0 v2 s0=some r):stepO pr c12_0 (St12_0 v2) (Ex12_0 v2) s0 r:=by
 unfold s12_0 at h
 rcases cond_split h with ⟨h116,h⟩ | ⟨h116,h⟩
 ·rcases cond_split h with ⟨h117,h⟩ | ⟨h117,h⟩
  ·obtain ⟨v118,h119,h⟩:=obind_some h
   rcases cond_split h with ⟨h120,h⟩ | ⟨h120,h⟩
   ·cases h
    exact stepO_in (st':=⟨[(5,sl 2 vunit s0.1,s0.2.2),(6,sl 1 vstr v2,true),(7,.int .i64 (wrapF .i64 (s0.2.1 + 1)),false)],[]⟩) (by simp only [go_sem,seval,c12_0,St12_0,h116,h117,idxR_O h119,h120] <;> rfl) (gc_same (Nat.le_refl _))
   ·cases h
    exact stepO_out (by simp only [go_sem,seval,c12_0,St12_0,h116,h117,idxR_O h119,h120,Ex12_0] <;> rfl)
  ·obtain ⟨v121,h122,h⟩:=obind_some h
   obtain ⟨v123,h124,h⟩:=obind_some h
   have wh124:callIso pr (X pr) 15 [.str v121,.int .u8 32]=some (sl 1 vstr v123,true):=W15 h124
   rcases cond_split h with ⟨h125,h⟩ | ⟨h125,h⟩
   ·cases h
    exact stepO_out (by simp only [go_sem,seval,c12_0,St12_0,h116,h117,idxR_O h122,wh124,h125,Ex12_0] <;> rfl)
   ·obtain ⟨v126,h127,h⟩:=obind_some h
    rcases cond_split h with ⟨h128,h⟩ | ⟨h128,h⟩
    ·cases h
     exact stepO_out (by simp only [go_sem,seval,c12_0,St12_0,h116,h117,idxR_O h122,wh124,h125,idxR_O h127,h128,Ex12_0] <;> rfl)
    ·obtain ⟨d159,h160,h⟩:=obind_some h
     rcases d159 with d161 | d162
     ·have wh160:X pr (.loop c12_1) ⟨[(5,sl 2 vunit s0.1,s0.2.2),(6,sl 1 vstr v2,true),(7,.int .i64 s0.2.1,false),(8,sl 1 vstr v123,true),(9,.ptr 0 0,false),(10,.int .i64 1,false)],[.cells [(.str v126,false),(.list true 0 [],false)]]⟩=some (.ret,⟨[(2,.list true 0 [],false),(3,.int .i64 s0.2.1,false),(4,.int .i64 26,false)],[.cells [(.str v126,false),(sl 1 vint d161.1,d161.2)]]⟩):=l12_1 v2 s0 v123 v126 h160
      cases h
      exact stepO_out (by simp only [go_sem,seval,c12_0,St12_0,h116,h117,idxR_O h122,wh124,h125,idxR_O h127,h128,wh160,Ex12_0] <;> rfl)
     ·have wh160:X pr (.loop c12_1) ⟨[(5,sl 2 vunit s0.1,s0.2.2),(6,sl 1 vstr v2,true),(7,.int .i64 s0.2.1,false),(8,sl 1 vstr v123,true),(9,.ptr 0 0,false),(10,.int .i64 1,false)],[.cells [(.str v126,false),(.list true 0 [],false)]]⟩=some (.exit 2,⟨[(5,sl 2 vunit s0.1,s0.2.2),(6,sl 1 vstr v2,true),(7,.int .i64 s0.2.1,false),(8,sl 1 vstr v123,true),(9,.ptr 0 0,false),(10,.int .i64 d162.1,false),(58,.bool false,false)],[.cells [(.str v126,false),(sl 1 vint d162.2.1,d162.2.2)]]⟩):=l12_1 v2 s0 v123 v126 h160
      rcases cond_split h with ⟨h163,h⟩ | ⟨h163,h⟩
      ·try simp only [h163] at wh160
       obtain ⟨v164,h165,h⟩:=obind_some h
       cases h
       exact stepO_in (st':=⟨[(5,sl 2 vunit v164,true),(6,sl 1 vstr v2,true),(7,.int .i64 (wrapF .i64 (s0.2.1 + 1)),false)],[]++[.cells [(.str v126,false),(sl 1 vint d162.2.1,d162.2.2)]]⟩) (by simp only [go_sem,seval,c12_0,St12_0,h116,h117,idxR_O h122,wh124,h125,idxR_O h127,h128,wh160,h163,app_vunit_O h165] <;> rfl) (gc_over rfl rfl (by first | simp only [go_sem,seval,St12_0] | rfl) (by first | simp only [go_sem,seval,St12_0] | rfl))
      ·try simp only [h163] at wh160
       rcases cond_split h with ⟨h166,h⟩ | ⟨h166,h⟩
       ·try simp only [h166] at wh160
        obtain ⟨v167,h168,h⟩:=obind_some h
        cases h
        exact stepO_in (st':=⟨[(5,sl 2 vunit v167,true),(6,sl 1 vstr v2,true),(7,.int .i64 (wrapF .i64 (s0.2.1 + 1)),false)],[]++[.cells [(.str v126,false),(sl 1 vint d162.2.1,d162.2.2)]]⟩) (by simp only [go_sem,seval,c12_0,St12_0,h116,h117,idxR_O h122,wh124,h125,idxR_O h127,h128,wh160,h163,h166,app_vunit_N h168 h166] <;> rfl) (gc_over rfl rfl (by first | simp only [go_sem,seval,St12_0] | rfl) (by first | simp only [go_sem,seval,St12_0] | rfl))
       ·try simp only [h166] at wh160
        cases h
 ·cases h
  exact stepO_out (by simp only [go_sem,seval,c12_0,St12_0,h116,Ex12_0] <;> rfl)
theorem l12_0 (v2:Option (List (List UInt8))) {s0:(Option (List GUnit)) × Int × Bool} {d} (h:itO (s12_0 v2) s0=some d):X pr (.loop c12_0) (St12_0 v2 s0)=some (Ex12_0 v2 d):=X_itO (b12_0 v2) (fun d=>by rcases d with d|d|d <;> (intro hh; cases hh)) h
noncomputable def f12 (a0:List UInt8):Option ((Option (List GUnit)) × Int × Int):=
 cond (decide (1000000 < (a0.length:Int)))
  (some (none,0,27))
  (obind (f15 a0 10) fun v2=>
  obind (itO (s12_0 v2) (none,0,false)) fun d169=>match d169 with
   | .inl d171=>
    some (none,d171,26)
   | .inr (.inl d172)=>
    some (none,d172.1,26)
   | .inr (.inr d173)=>
    obind (E10w d173.1) fun v174=>
    cond (decide (v174=0))
     (some (d173.1,0,0))
     (some (none,wrapF .i64 (((v2.getD []).length:Int) - 1),v174)))
theorem W12 {a0:List UInt8} {r} (h:f12 a0=some r):callIso pr (X pr) 12 [.str a0]=some (.tup [sl 2 vunit r.1,.int .i64 r.2.1,.int .i64 r.2.2],false):=by
 unfold f12 at h
 rcases cond_split h with ⟨h1,h⟩ | ⟨h1,h⟩
 ·have hr:(none,0,27)=r:=Option.some.inj h
  subst hr
  have this:∃ hh,callFn pr (X pr) 12 [.str a0] []=some (.tup [.list true 0 [],.int .i64 0,.int .i64 27],false,hh):=by
   rw [callFn_at (show pr.fns 12=some c12 from rfl) (by simp)]
   simp only [go_sem,seval,c12,h1]
   exact ⟨_,rfl⟩
  obtain ⟨hh,this⟩:=this
  exact callIso_of rfl this (by first | rfl | simp only [go_sem,seval]) (by first | rfl | simp only [go_sem,seval])
 ·obtain ⟨v2,h3,h⟩:=obind_some h
  have wh3:callIso pr (X pr) 15 [.str a0,.int .u8 10]=some (sl 1 vstr v2,true):=W15 h3
  obtain ⟨d169,h170,h⟩:=obind_some h
  rcases d169 with d171 | d172 | d173
  ·have wh170:X pr (.loop c12_0) ⟨[(5,.list true 0 [],false),(6,sl 1 vstr v2,true),(7,.int .i64 0,false)],[]⟩=some (.ret,⟨[(2,.list true 0 [],false),(3,.int .i64 d171,false),(4,.int .i64 26,false)],[]⟩):=l12_0 v2 h170
   have hr:(none,d171,26)=r:=Option.some.inj h
   subst hr
   have this:∃ hh,callFn pr (X pr) 12 [.str a0] []=some (.tup [.list true 0 [],.int .i64 d171,.int .i64 26],false,hh):=by
    rw [callFn_at (show pr.fns 12=some c12 from rfl) (by simp)]
    simp only [go_sem,seval,c12,h1,wh3,wh170]
    exact ⟨_,rfl⟩
   obtain ⟨hh,this⟩:=this
   exact callIso_of rfl this (by first | rfl | simp only [go_sem,seval]) (by first | rfl | simp only [go_sem,seval])
  ·have wh170:X pr (.loop c12_0) ⟨[(5,.list true 0 [],false),(6,sl 1 vstr v2,true),(7,.int .i64 0,false)],[]⟩=some (.ret,⟨[(2,.list true 0 [],false),(3,.int .i64 d172.1,false),(4,.int .i64 26,false)],[.cells [(.str d172.2.1,false),(sl 1 vint d172.2.2.1,d172.2.2.2)]]⟩):=l12_0 v2 h170
   have hr:(none,d172.1,26)=r:=Option.some.inj h
   subst hr
   have this:∃ hh,callFn pr (X pr) 12 [.str a0] []=some (.tup [.list true 0 [],.int .i64 d172.1,.int .i64 26],false,hh):=by
    rw [callFn_at (show pr.fns 12=some c12 from rfl) (by simp)]
    simp only [go_sem,seval,c12,h1,wh3,wh170]
    exact ⟨_,rfl⟩
   obtain ⟨hh,this⟩:=this
   exact callIso_of rfl this (by first | rfl | simp only [go_sem,seval]) (by first | rfl | simp only [go_sem,seval])
  ·have wh170:X pr (.loop c12_0) ⟨[(5,.list true 0 [],false),(6,sl 1 vstr v2,true),(7,.int .i64 0,false)],[]⟩=some (.exit 0,⟨[(5,sl 2 vunit d173.1,d173.2.1),(6,sl 1 vstr v2,true),(7,.int .i64 d173.2.2,false),(22,.bool false,false)],[]⟩):=l12_0 v2 h170
   obtain ⟨v174,h175,h⟩:=obind_some h
   have wh175:callIso pr (X pr) 10 [sl 2 vunit d173.1]=some (.int .i64 v174,false):=WE10w h175
   rcases cond_split h with ⟨h176,h⟩ | ⟨h176,h⟩
   ·try simp only [h176] at wh170
    have hr:(d173.1,0,0)=r:=Option.some.inj h
    subst hr
    have this:∃ hh,callFn pr (X pr) 12 [.str a0] []=some (.tup [sl 2 vunit d173.1,.int .i64 0,.int .i64 0],false,hh):=by
     rw [callFn_at (show pr.fns 12=some c12 from rfl) (by simp)]
     simp only [go_sem,seval,c12,h1,wh3,wh170,wh175,h176]
     exact ⟨_,rfl⟩
    obtain ⟨hh,this⟩:=this
    exact callIso_of rfl this (by first | rfl | simp only [go_sem,seval]) (by first | rfl | simp only [go_sem,seval])
   ·try simp only [h176] at wh170
    have hr:(none,wrapF .i64 (((v2.getD []).length:Int) - 1),v174)=r:=Option.some.inj h
    subst hr
    have this:∃ hh,callFn pr (X pr) 12 [.str a0] []=some (.tup [.list true 0 [],.int .i64 (wrapF .i64 (((v2.getD []).length:Int) - 1)),.int .i64 v174],false,hh):=by
     rw [callFn_at (show pr.fns 12=some c12 from rfl) (by simp)]
     simp only [go_sem,seval,c12,h1,wh3,wh170,wh175,h176]
     exact ⟨_,rfl⟩
    obtain ⟨hh,this⟩:=this
    exact callIso_of rfl this (by first | rfl | simp only [go_sem,seval]) (by first | rfl | simp only [go_sem,seval])
end Go.Z
