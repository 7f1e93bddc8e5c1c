/-
  LineTutte: the reference's check of units of any size.
-/
import Derived.Test.YtbkpojiedkhfkaaGreatL5
import Derived.Test.YtbkpojiedkhfkaaGreatR1
import Derived.Test.YtbkpojiedkhfkaaGreatV6
import Derived.Test.YtbkpojiedkhfkaaGreatUA
import Derived.Test.YtbkpojiedkhfkaaGreatG0m
set_option linter.unusedVariables false
set_option linter.unusedSimpArgs false
set_option maxRecDepth 100000
namespace Go.Z
open Go Go.Abs
noncomputable def E22w (o:Option (List GUnit)):Option Int:=exO ((o.getD []).length≤1073741824∧∀ u∈o.getD [],sizeW u) (unitsE (o.getD []))
theorem WE22w {o r} (h:E22w o=some r):callIso pr (X pr) 22 [sl 2 vunit o]=some (.int .i64 r,false):=by obtain ⟨⟨h1,h2⟩,rfl⟩:=exO_some h; exact I22w _ h1 h2
end Go.Z
/-
 LineTutte: the law: a function that mirrors the run,and the run (printed by walk.py).
-/
set_option maxHeartbeats 4000000
namespace Go.Z
open Go Go.Abs
noncomputable def s13_0 (a0:Option (List GUnit)) (a1:Int) (a2:Int) (s0:(Option (List Int)) × Int × Bool):Option (((Option (List Int)) × Int × Bool) ⊕ (((Option (List Int)) × Bool × Int))):=
 cond (decide (s0.2.1 < ((a0.getD []).length:Int)))
  (obind (shrO .u8 a2 s0.2.1) fun v28=>
  cond (decide ((bitF .and .u8 v28 1)=1))
   (cond s0.2.2
    (obind (apO s0.1 [s0.2.1]) fun v32=>
    some (.inl (v32,wrapF .i64 (s0.2.1 + 1),true)))
    (cond s0.1.isNone
     (obind (apO s0.1 [s0.2.1]) fun v35=>
     some (.inl (v35,wrapF .i64 (s0.2.1 + 1),true)))
     (none)))
   (some (.inl (s0.1,wrapF .i64 (s0.2.1 + 1),s0.2.2))))
  (some (.inr (s0.1,s0.2.2,s0.2.1)))
def St13_0 (a0:Option (List GUnit)) (a1:Int) (a2:Int) (s0:(Option (List Int)) × Int × Bool):ASt:=⟨[(0,sl 2 vunit a0,false),(1,.int .i64 a1,false),(2,.int .u8 a2,false),(7,sl 1 vint s0.1,s0.2.2),(43,.int .i64 ((a0.getD []).length:Int),false),(44,.int .i64 s0.2.1,false)],[]⟩
def Ex13_0 (a0:Option (List GUnit)) (a1:Int) (a2:Int) (d:((Option (List Int)) × Bool × Int)):AExit × ASt:=(.exit 0,⟨[(0,sl 2 vunit a0,false),(1,.int .i64 a1,false),(2,.int .u8 a2,false),(7,sl 1 vint d.1,d.2.1),(43,.int .i64 ((a0.getD []).length:Int),false),(44,.int .i64 d.2.2,false),(45,.bool false,false)],[]⟩)
theorem b13_0 (a0:Option (List GUnit)) (a1:Int) (a2:Int) (s0:(Option (List Int)) × Int × Bool) (r) (h:s13_0 a0 a1 a2 s0=some r):stepO pr c13_0 (St13_0 a0 a1 a2) (Ex13_0 a0 a1 a2) s0 r:=by
 unfold s13_0 at h
 rcases cond_split h with ⟨h27,h⟩ | ⟨h27,h⟩
 ·obtain ⟨v28,h29,h⟩:=obind_some h
  rcases cond_split h with ⟨h30,h⟩ | ⟨h30,h⟩
  ·rcases cond_split h with ⟨h31,h⟩ | ⟨h31,h⟩
   ·obtain ⟨v32,h33,h⟩:=obind_some h
    cases h
    exact stepO_in (st':=⟨[(0,sl 2 vunit a0,false),(1,.int .i64 a1,false),(2,.int .u8 a2,false),(7,sl 1 vint v32,true),(43,.int .i64 ((a0.getD []).length:Int),false),(44,.int .i64 (wrapF .i64 (s0.2.1 + 1)),false)],[]⟩) (by simp only [go_sem,seval,c13_0,St13_0,h27,b_shr_O h29,h30,h31,app_vint_O h33] <;> rfl) (gc_same (Nat.le_refl _))
   ·rcases cond_split h with ⟨h34,h⟩ | ⟨h34,h⟩
    ·obtain ⟨v35,h36,h⟩:=obind_some h
     cases h
     exact stepO_in (st':=⟨[(0,sl 2 vunit a0,false),(1,.int .i64 a1,false),(2,.int .u8 a2,false),(7,sl 1 vint v35,true),(43,.int .i64 ((a0.getD []).length:Int),false),(44,.int .i64 (wrapF .i64 (s0.2.1 + 1)),false)],[]⟩) (by simp only [go_sem,seval,c13_0,St13_0,h27,b_shr_O h29,h30,h31,h34,app_vint_N h36 h34] <;> rfl) (gc_same (Nat.le_refl _))
    ·cases h
  ·cases h
   exact stepO_in (st':=⟨[(0,sl 2 vunit a0,false),(1,.int .i64 a1,false),(2,.int .u8 a2,false),(7,sl 1 vint s0.1,s0.2.2),(43,.int .i64 ((a0.getD []).length:Int),false),(44,.int .i64 (wrapF .i64 (s0.2.1 + 1)),false)],[]⟩) (by simp only [go_sem,seval,c13_0,St13_0,h27,b_shr_O h29,h30] <;> rfl) (gc_same (Nat.le_refl _))
 ·cases h
  exact stepO_out (by simp only [go_sem,seval,c13_0,St13_0,h27,Ex13_0] <;> rfl)
theorem l13_0 (a0:Option (List GUnit)) (a1:Int) (a2:Int) {s0:(Option (List Int)) × Int × Bool} {d} (h:itO (s13_0 a0 a1 a2) s0=some d):X pr (.loop c13_0) (St13_0 a0 a1 a2 s0)=some (Ex13_0 a0 a1 a2 d):=X_itO (b13_0 a0 a1 a2) (fun d hh=>by cases hh) h
noncomputable def s13_1 (a0:Option (List GUnit)) (a1:Int) (p9:Bool) (p10:Option (List Int)) (s1:Int):Option (Int ⊕ (Unit ⊕ Int)):=
 cond (decide (s1 < ((p10.getD []).length:Int)))
  (obind (idxO (p10.getD []) s1) fun v88=>
  cond (decide (v88 < 0))
   (some (.inr (.inl ())))
   (cond (decide (((a0.getD []).length:Int)≤v88))
    (some (.inr (.inl ())))
    (cond (decide (0 < s1))
     (obind (idxO (p10.getD []) (wrapF .i64 (s1 - 1))) fun v93=>
     cond (decide (v88≤v93))
      (some (.inr (.inl ())))
      (some (.inl (wrapF .i64 (s1 + 1)))))
     (some (.inl (wrapF .i64 (s1 + 1)))))))
  (some (.inr (.inr s1)))
def St13_1 (a0:Option (List GUnit)) (a1:Int) (p9:Bool) (p10:Option (List Int)) (s1:Int):ASt:=⟨[(0,sl 2 vunit a0,false),(1,.int .i64 a1,false),(9,.bool p9,false),(10,sl 1 vint p10,false),(131,sl 1 vint p10,false),(132,.int .i64 ((p10.getD []).length:Int),false),(133,.int .i64 s1,false)],[]⟩
def Ex13_1 (a0:Option (List GUnit)) (a1:Int) (p9:Bool) (p10:Option (List Int)):Unit ⊕ Int→AExit × ASt
 | .inl d=>(.ret,⟨[(6,.bool false,false)],[]⟩)
 | .inr d=>(.exit 2,⟨[(0,sl 2 vunit a0,false),(1,.int .i64 a1,false),(9,.bool p9,false),(10,sl 1 vint p10,false),(131,sl 1 vint p10,false),(132,.int .i64 ((p10.getD []).length:Int),false),(133,.int .i64 d,false),(134,.bool false,false)],[]⟩)
theorem b13_1 (a0:Option (List GUnit)) (a1:Int) (p9:Bool) (p10:Option (List Int)) (s1:Int) (r) (h:s13_1 a0 a1 p9 p10 s1=some r):stepO pr c13_1 (St13_1 a0 a1 p9 p10) (Ex13_1 a0 a1 p9 p10) s1 r:=by
 unfold s13_1 at h
 rcases cond_split h with ⟨h87,h⟩ | ⟨h87,h⟩
 ·obtain ⟨v88,h89,h⟩:=obind_some h
  rcases cond_split h with ⟨h90,h⟩ | ⟨h90,h⟩
  ·cases h
   exact stepO_out (by simp only [go_sem,seval,c13_1,St13_1,h87,idxR_O h89,h90,Ex13_1] <;> rfl)
  ·rcases cond_split h with ⟨h91,h⟩ | ⟨h91,h⟩
   ·cases h
    exact stepO_out (by simp only [go_sem,seval,c13_1,St13_1,h87,idxR_O h89,h90,h91,Ex13_1] <;> rfl)
   ·rcases cond_split h with ⟨h92,h⟩ | ⟨h92,h⟩
    ·obtain ⟨v93,h94,h⟩:=obind_some h
     rcases cond_split h with ⟨h95,h⟩ | ⟨h95,h⟩
     ·cases h
      exact stepO_out (by simp only [go_sem,seval,c13_1,St13_1,h87,idxR_O h89,h90,h91,h92,idxR_O h94,h95,Ex13_1] <;> rfl)
     ·cases h
      exact stepO_in (st':=⟨[(0,sl 2 vunit a0,false),(1,.int .i64 a1,false),(9,.bool p9,false),(10,sl 1 vint p10,false),(131,sl 1 vint p10,false),(132,.int .i64 ((p10.getD []).length:Int),false),(133,.int .i64 (wrapF .i64 (s1 + 1)),false)],[]⟩) (by simp only [go_sem,seval,c13_1,St13_1,h87,idxR_O h89,h90,h91,h92,idxR_O h94,h95] <;> rfl) (gc_same (Nat.le_refl _))
    ·cases h
     exact stepO_in (st':=⟨[(0,sl 2 vunit a0,false),(1,.int .i64 a1,false),(9,.bool p9,false),(10,sl 1 vint p10,false),(131,sl 1 vint p10,false),(132,.int .i64 ((p10.getD []).length:Int),false),(133,.int .i64 (wrapF .i64 (s1 + 1)),false)],[]⟩) (by simp only [go_sem,seval,c13_1,St13_1,h87,idxR_O h89,h90,h91,h92] <;> rfl) (gc_same (Nat.le_refl _))
 ·cases h
  exact stepO_out (by simp only [go_sem,seval,c13_1,St13_1,h87,Ex13_1] <;> rfl)
theorem l13_1 (a0:Option (List GUnit)) (a1:Int) (p9:Bool) (p10:Option (List Int)) {s1:Int} {d} (h:itO (s13_1 a0 a1 p9 p10) s1=some d):X pr (.loop c13_1) (St13_1 a0 a1 p9 p10 s1)=some (Ex13_1 a0 a1 p9 p10 d):=X_itO (b13_1 a0 a1 p9 p10) (fun d=>by rcases d with d|d <;> (intro hh; cases hh)) h
noncomputable def s13_1b (a0:Option (List GUnit)) (a1:Int) (p9:Bool) (p10:Option (List Int)) (s1:Int):Option (Int ⊕ (Unit ⊕ Int)):=
 cond (decide (s1 < ((p10.getD []).length:Int)))
  (obind (idxO (p10.getD []) s1) fun v131=>
  cond (decide (v131 < 0))
   (some (.inr (.inl ())))
   (cond (decide (((a0.getD []).length:Int)≤v131))
    (some (.inr (.inl ())))
    (cond (decide (0 < s1))
     (obind (idxO (p10.getD []) (wrapF .i64 (s1 - 1))) fun v136=>
     cond (decide (v131≤v136))
      (some (.inr (.inl ())))
      (some (.inl (wrapF .i64 (s1 + 1)))))
     (some (.inl (wrapF .i64 (s1 + 1)))))))
  (some (.inr (.inr s1)))
def St13_1b (a0:Option (List GUnit)) (a1:Int) (p9:Bool) (p10:Option (List Int)) (s1:Int):ASt:=⟨[(0,sl 2 vunit a0,false),(1,.int .i64 a1,false),(9,.bool p9,false),(10,sl 1 vint p10,false),(131,sl 1 vint p10,false),(132,.int .i64 ((p10.getD []).length:Int),false),(133,.int .i64 s1,false)],[]⟩
def Ex13_1b (a0:Option (List GUnit)) (a1:Int) (p9:Bool) (p10:Option (List Int)):Unit ⊕ Int→AExit × ASt
 | .inl d=>(.ret,⟨[(6,.bool false,false)],[]⟩)
 | .inr d=>(.exit 2,⟨[(0,sl 2 vunit a0,false),(1,.int .i64 a1,false),(9,.bool p9,false),(10,sl 1 vint p10,false),(131,sl 1 vint p10,false),(132,.int .i64 ((p10.getD []).length:Int),false),(133,.int .i64 d,false),(134,.bool false,false)],[]⟩)
theorem b13_1b (a0:Option (List GUnit)) (a1:Int) (p9:Bool) (p10:Option (List Int)) (s1:Int) (r) (h:s13_1b a0 a1 p9 p10 s1=some r):stepO pr c13_1 (St13_1b a0 a1 p9 p10) (Ex13_1b a0 a1 p9 p10) s1 r:=by
 unfold s13_1b at h
 rcases cond_split h with ⟨h130,h⟩ | ⟨h130,h⟩
 ·obtain ⟨v131,h132,h⟩:=obind_some h
  rcases cond_split h with ⟨h133,h⟩ | ⟨h133,h⟩
  ·cases h
   exact stepO_out (by simp only [go_sem,seval,c13_1,St13_1b,h130,idxR_O h132,h133,Ex13_1b] <;> rfl)
  ·rcases cond_split h with ⟨h134,h⟩ | ⟨h134,h⟩
   ·cases h
    exact stepO_out (by simp only [go_sem,seval,c13_1,St13_1b,h130,idxR_O h132,h133,h134,Ex13_1b] <;> rfl)
   ·rcases cond_split h with ⟨h135,h⟩ | ⟨h135,h⟩
    ·obtain ⟨v136,h137,h⟩:=obind_some h
     rcases cond_split h with ⟨h138,h⟩ | ⟨h138,h⟩
     ·cases h
      exact stepO_out (by simp only [go_sem,seval,c13_1,St13_1b,h130,idxR_O h132,h133,h134,h135,idxR_O h137,h138,Ex13_1b] <;> rfl)
     ·cases h
      exact stepO_in (st':=⟨[(0,sl 2 vunit a0,false),(1,.int .i64 a1,false),(9,.bool p9,false),(10,sl 1 vint p10,false),(131,sl 1 vint p10,false),(132,.int .i64 ((p10.getD []).length:Int),false),(133,.int .i64 (wrapF .i64 (s1 + 1)),false)],[]⟩) (by simp only [go_sem,seval,c13_1,St13_1b,h130,idxR_O h132,h133,h134,h135,idxR_O h137,h138] <;> rfl) (gc_same (Nat.le_refl _))
    ·cases h
     exact stepO_in (st':=⟨[(0,sl 2 vunit a0,false),(1,.int .i64 a1,false),(9,.bool p9,false),(10,sl 1 vint p10,false),(131,sl 1 vint p10,false),(132,.int .i64 ((p10.getD []).length:Int),false),(133,.int .i64 (wrapF .i64 (s1 + 1)),false)],[]⟩) (by simp only [go_sem,seval,c13_1,St13_1b,h130,idxR_O h132,h133,h134,h135] <;> rfl) (gc_same (Nat.le_refl _))
 ·cases h
  exact stepO_out (by simp only [go_sem,seval,c13_1,St13_1b,h130,Ex13_1b] <;> rfl)
theorem l13_1b (a0:Option (List GUnit)) (a1:Int) (p9:Bool) (p10:Option (List Int)) {s1:Int} {d} (h:itO (s13_1b a0 a1 p9 p10) s1=some d):X pr (.loop c13_1) (St13_1b a0 a1 p9 p10 s1)=some (Ex13_1b a0 a1 p9 p10 d):=X_itO (b13_1b a0 a1 p9 p10) (fun d=>by rcases d with d|d <;> (intro hh; cases hh)) h
noncomputable def j13_15 (a0:Option (List GUnit)) (a1:Int) (a2:Int) (p16:Int) (p243:Bool):Option Bool:=
 cond p243
  (some true)
  (obind (E18 a0) fun v180=>
  obind (f60 v180 p16) fun v182=>
  cond (decide (v182.2=0))
   (obind (f61 v180 p16 v182.1) fun v185=>
   some (decide (v185=0)))
   (some false))
theorem J13_15 {a0:Option (List GUnit)} {a1:Int} {a2:Int} {p16:Int} {p243:Bool} {r} (h:j13_15 a0 a1 a2 p16 p243=some r):∃ hh,thenX (X pr c13_c15 ⟨[(0,sl 2 vunit a0,false),(16,.int .i64 p16,false),(243,.bool p243,false)],[]⟩) (X pr c13_k16)=some (.ret,⟨[(6,.bool r,false)],hh⟩):=by
 unfold j13_15 at h
 rcases cond_split h with ⟨h179,h⟩ | ⟨h179,h⟩
 ·have hr:true=r:=Option.some.inj h
  subst hr
  refine ⟨[],?_⟩
  simp only [go_sem,seval,c13_c15,c13_k16,h179] <;> rfl
 ·obtain ⟨v180,h181,h⟩:=obind_some h
  have wh181:callIso pr (X pr) 18 [sl 2 vunit a0]=some (sl 2 vunit v180,(accO (a0.getD []))):=WE18 h181
  obtain ⟨v182,h183,h⟩:=obind_some h
  have wh183:callIso pr (X pr) 60 [sl 2 vunit v180,.int .i64 p16]=some (.tup [sl 1 vint v182.1,.int .i64 v182.2],false):=W60 h183
  rcases cond_split h with ⟨h184,h⟩ | ⟨h184,h⟩
  ·obtain ⟨v185,h186,h⟩:=obind_some h
   have wh186:callIso pr (X pr) 61 [sl 2 vunit v180,.int .i64 p16,sl 1 vint v182.1]=some (.int .i64 v185,false):=W61 h186
   have hr:decide (v185=0)=r:=Option.some.inj h
   subst hr
   refine ⟨[],?_⟩
   simp only [go_sem,seval,c13_c15,c13_k16,h179,wh181,wh183,h184,wh186] <;> rfl
  ·have hr:false=r:=Option.some.inj h
   subst hr
   refine ⟨[],?_⟩
   simp only [go_sem,seval,c13_c15,c13_k16,h179,wh181,wh183,h184] <;> rfl
noncomputable def j13_14 (a0:Option (List GUnit)) (a1:Int) (a2:Int) (p16:Int) (p241:Bool):Option Bool:=
 cond p241
  (some false)
  (j13_15 a0 a1 a2 p16 (decide (p16=0)))
theorem J13_14 {a0:Option (List GUnit)} {a1:Int} {a2:Int} {p16:Int} {p241:Bool} {r} (h:j13_14 a0 a1 a2 p16 p241=some r):∃ hh,thenX (X pr c13_c14 ⟨[(0,sl 2 vunit a0,false),(16,.int .i64 p16,false),(241,.bool p241,false)],[]⟩) (X pr c13_k15)=some (.ret,⟨[(6,.bool r,false)],hh⟩):=by
 unfold j13_14 at h
 rcases cond_split h with ⟨h178,h⟩ | ⟨h178,h⟩
 ·have hr:false=r:=Option.some.inj h
  subst hr
  refine ⟨[],?_⟩
  simp only [go_sem,seval,c13_c14,c13_k15,h178] <;> rfl
 ·obtain ⟨hh,hk⟩:=J13_15 h
  refine ⟨hh,?_⟩
  simp only [go_sem,seval,c13_c14,c13_k15,h178]
  exact hk
noncomputable def j13_12 (a0:Option (List GUnit)) (a1:Int) (a2:Int) (p16:Int) (p231:Bool):Option Bool:=
 cond p231
  (some false)
  (obind (E18 a0) fun v174=>
  obind (f60 v174 (wrapF .i64 (p16 + 1))) fun v176=>
  j13_14 a0 a1 a2 p16 (!decide (v176.2=7)))
theorem J13_12 {a0:Option (List GUnit)} {a1:Int} {a2:Int} {p16:Int} {p231:Bool} {r} (h:j13_12 a0 a1 a2 p16 p231=some r):∃ hh,thenX (X pr c13_c12 ⟨[(0,sl 2 vunit a0,false),(16,.int .i64 p16,false),(231,.bool p231,false)],[]⟩) (X pr c13_k13)=some (.ret,⟨[(6,.bool r,false)],hh⟩):=by
 unfold j13_12 at h
 rcases cond_split h with ⟨h173,h⟩ | ⟨h173,h⟩
 ·have hr:false=r:=Option.some.inj h
  subst hr
  refine ⟨[],?_⟩
  simp only [go_sem,seval,c13_c12,c13_k13,h173] <;> rfl
 ·obtain ⟨v174,h175,h⟩:=obind_some h
  have wh175:callIso pr (X pr) 18 [sl 2 vunit a0]=some (sl 2 vunit v174,(accO (a0.getD []))):=WE18 h175
  obtain ⟨v176,h177,h⟩:=obind_some h
  have wh177:callIso pr (X pr) 60 [sl 2 vunit v174,.int .i64 (wrapF .i64 (p16 + 1))]=some (.tup [sl 1 vint v176.1,.int .i64 v176.2],false):=W60 h177
  obtain ⟨hh,hk⟩:=J13_14 h
  refine ⟨hh,?_⟩
  simp only [go_sem,seval,c13_c12,c13_k13,h173,wh175,wh177]
  exact hk
noncomputable def j13_9 (a0:Option (List GUnit)) (a1:Int) (a2:Int) (p9:Bool) (p187:Bool):Option Bool:=
 cond p187
  (some (!p9))
  (obind (E18 a0) fun v160=>
  obind (f56 v160) fun v162=>
  obind (apO (some []) (v162.1.getD [])) fun v164=>
  obind (f66 v160 v164) fun v166=>
  cond (decide (v162.2.2=0))
   (cond (decide (v166.2=0))
    (cond (decide (v166.1=v162.2.1))
     (cond (p9 == decide (v162.2.1 < a1))
      (cond (decide (v162.2.1 < 0))
       (j13_12 a0 a1 a2 v162.2.1 true)
       (j13_12 a0 a1 a2 v162.2.1 (decide (200000 < v162.2.1))))
      (j13_12 a0 a1 a2 v162.2.1 true))
     (j13_12 a0 a1 a2 v162.2.1 true))
    (j13_12 a0 a1 a2 v162.2.1 true))
   (j13_12 a0 a1 a2 v162.2.1 true))
theorem J13_9 {a0:Option (List GUnit)} {a1:Int} {a2:Int} {p9:Bool} {p187:Bool} {r} (h:j13_9 a0 a1 a2 p9 p187=some r):∃ hh,thenX (X pr c13_c9 ⟨[(0,sl 2 vunit a0,false),(1,.int .i64 a1,false),(9,.bool p9,false),(187,.bool p187,false)],[]⟩) (X pr c13_k10)=some (.ret,⟨[(6,.bool r,false)],hh⟩):=by
 unfold j13_9 at h
 rcases cond_split h with ⟨h159,h⟩ | ⟨h159,h⟩
 ·have hr:(!p9)=r:=Option.some.inj h
  subst hr
  refine ⟨[],?_⟩
  simp only [go_sem,seval,c13_c9,c13_k10,h159] <;> rfl
 ·obtain ⟨v160,h161,h⟩:=obind_some h
  have wh161:callIso pr (X pr) 18 [sl 2 vunit a0]=some (sl 2 vunit v160,(accO (a0.getD []))):=WE18 h161
  obtain ⟨v162,h163,h⟩:=obind_some h
  have wh163:callIso pr (X pr) 56 [sl 2 vunit v160]=some (.tup [sl 2 vpair v162.1,.int .i64 v162.2.1,.int .i64 v162.2.2],false):=W56 h163
  obtain ⟨v164,h165,h⟩:=obind_some h
  obtain ⟨v166,h167,h⟩:=obind_some h
  have wh167:callIso pr (X pr) 66 [sl 2 vunit v160,sl 2 vpair v164]=some (.tup [.int .i64 v166.1,.int .i64 v166.2],false):=W66 h167
  rcases cond_split h with ⟨h168,h⟩ | ⟨h168,h⟩
  ·rcases cond_split h with ⟨h169,h⟩ | ⟨h169,h⟩
   ·rcases cond_split h with ⟨h170,h⟩ | ⟨h170,h⟩
    ·rcases cond_split h with ⟨h171,h⟩ | ⟨h171,h⟩
     ·rcases cond_split h with ⟨h172,h⟩ | ⟨h172,h⟩
      ·obtain ⟨hh,hk⟩:=J13_12 h
       refine ⟨hh,?_⟩
       simp only [go_sem,seval,c13_c9,c13_k10,h159,wh161,wh163,app_lit_O h165,wh167,h168,h169,h170,h171,h172]
       exact hk
      ·obtain ⟨hh,hk⟩:=J13_12 h
       refine ⟨hh,?_⟩
       simp only [go_sem,seval,c13_c9,c13_k10,h159,wh161,wh163,app_lit_O h165,wh167,h168,h169,h170,h171,h172]
       exact hk
     ·obtain ⟨hh,hk⟩:=J13_12 h
      refine ⟨hh,?_⟩
      simp only [go_sem,seval,c13_c9,c13_k10,h159,wh161,wh163,app_lit_O h165,wh167,h168,h169,h170,h171]
      exact hk
    ·obtain ⟨hh,hk⟩:=J13_12 h
     refine ⟨hh,?_⟩
     simp only [go_sem,seval,c13_c9,c13_k10,h159,wh161,wh163,app_lit_O h165,wh167,h168,h169,h170]
     exact hk
   ·obtain ⟨hh,hk⟩:=J13_12 h
    refine ⟨hh,?_⟩
    simp only [go_sem,seval,c13_c9,c13_k10,h159,wh161,wh163,app_lit_O h165,wh167,h168,h169]
    exact hk
  ·obtain ⟨hh,hk⟩:=J13_12 h
   refine ⟨hh,?_⟩
   simp only [go_sem,seval,c13_c9,c13_k10,h159,wh161,wh163,app_lit_O h165,wh167,h168]
   exact hk
noncomputable def j13_8 (a0:Option (List GUnit)) (a1:Int) (a2:Int) (p7:Option (List Int)) (o7:Bool) (p9:Bool) (p10:Option (List Int)) (p11:Int) (p12:Int) (p99:Bool):Option Bool:=
 cond p99
  (cond (decide (p11=7))
   (obind (remO ((a0.getD []).length:Int) 2) fun v60=>
   j13_9 a0 a1 a2 p9 (!decide (v60=0)))
   (some false))
  (cond (decide (p11=0))
   (cond (decide (((a0.getD []).length:Int) < ((p10.getD []).length:Int)))
    (some false)
    (obind (E18 a0) fun v64=>
    obind (E62 p10) fun v66=>
    obind (f61 v64 a1 v66) fun v68=>
    cond (decide (v68=0))
     (cond (decide (((p7.getD []).length:Int) < ((p10.getD []).length:Int)))
      (cond (decide (p12=0))
       (some false)
       (obind (itO (s13_1 a0 a1 p9 p10) 0) fun d96=>match d96 with
        | .inl d98=>
         some false
        | .inr d99=>
         obind (f84 a0 a1 p10) fun v100=>
         cond (decide (v100≤((p10.getD []).length:Int)))
          (some false)
          (cond (decide (1 < a1))
           (obind (f61 v64 (wrapF .i64 (a1 - 1)) none) fun v104=>
           cond (decide (v104=0))
            (obind (remO ((a0.getD []).length:Int) 2) fun v107=>
            j13_9 a0 a1 a2 p9 (!decide (v107=0)))
            (obind (f61 v64 a1 none) fun v109=>
            cond (decide (v109=0))
             (some false)
             (obind (remO ((a0.getD []).length:Int) 2) fun v112=>
             j13_9 a0 a1 a2 p9 (!decide (v112=0)))))
           (obind (remO ((a0.getD []).length:Int) 2) fun v114=>
           j13_9 a0 a1 a2 p9 (!decide (v114=0))))))
      (obind (itO (s13_1b a0 a1 p9 p10) 0) fun d139=>match d139 with
       | .inl d141=>
        some false
       | .inr d142=>
        obind (f84 a0 a1 p10) fun v143=>
        cond (decide (v143≤((p10.getD []).length:Int)))
         (some false)
         (cond (decide (1 < a1))
          (obind (f61 v64 (wrapF .i64 (a1 - 1)) none) fun v147=>
          cond (decide (v147=0))
           (obind (remO ((a0.getD []).length:Int) 2) fun v150=>
           j13_9 a0 a1 a2 p9 (!decide (v150=0)))
           (obind (f61 v64 a1 none) fun v152=>
           cond (decide (v152=0))
            (some false)
            (obind (remO ((a0.getD []).length:Int) 2) fun v155=>
            j13_9 a0 a1 a2 p9 (!decide (v155=0)))))
          (obind (remO ((a0.getD []).length:Int) 2) fun v157=>
          j13_9 a0 a1 a2 p9 (!decide (v157=0))))))
     (some false)))
   (some false))
theorem J13_8 {a0:Option (List GUnit)} {a1:Int} {a2:Int} {p7:Option (List Int)} {o7:Bool} {p9:Bool} {p10:Option (List Int)} {p11:Int} {p12:Int} {p99:Bool} {r} (h:j13_8 a0 a1 a2 p7 o7 p9 p10 p11 p12 p99=some r):∃ hh,thenX (X pr c13_c8 ⟨[(0,sl 2 vunit a0,false),(1,.int .i64 a1,false),(7,sl 1 vint p7,o7),(9,.bool p9,false),(10,sl 1 vint p10,false),(11,.int .i64 p11,false),(12,.int .i64 p12,false),(99,.bool p99,false)],[]⟩) (X pr c13_k9)=some (.ret,⟨[(6,.bool r,false)],hh⟩):=by
 unfold j13_8 at h
 rcases cond_split h with ⟨h58,h⟩ | ⟨h58,h⟩
 ·rcases cond_split h with ⟨h59,h⟩ | ⟨h59,h⟩
  ·obtain ⟨v60,h61,h⟩:=obind_some h
   obtain ⟨hh,hk⟩:=J13_9 h
   refine ⟨hh,?_⟩
   simp only [go_sem,seval,c13_c8,c13_k9,h58,h59,b_rem_O h61]
   exact hk
  ·have hr:false=r:=Option.some.inj h
   subst hr
   refine ⟨[],?_⟩
   simp only [go_sem,seval,c13_c8,c13_k9,h58,h59] <;> rfl
 ·rcases cond_split h with ⟨h62,h⟩ | ⟨h62,h⟩
  ·rcases cond_split h with ⟨h63,h⟩ | ⟨h63,h⟩
   ·have hr:false=r:=Option.some.inj h
    subst hr
    refine ⟨[],?_⟩
    simp only [go_sem,seval,c13_c8,c13_k9,h58,h62,h63] <;> rfl
   ·obtain ⟨v64,h65,h⟩:=obind_some h
    have wh65:callIso pr (X pr) 18 [sl 2 vunit a0]=some (sl 2 vunit v64,(accO (a0.getD []))):=WE18 h65
    obtain ⟨v66,h67,h⟩:=obind_some h
    have wh67:callIso pr (X pr) 62 [sl 1 vint p10]=some (sl 1 vint v66,true):=WE62 h67
    obtain ⟨v68,h69,h⟩:=obind_some h
    have wh69:callIso pr (X pr) 61 [sl 2 vunit v64,.int .i64 a1,sl 1 vint v66]=some (.int .i64 v68,false):=W61 h69
    rcases cond_split h with ⟨h70,h⟩ | ⟨h70,h⟩
    ·rcases cond_split h with ⟨h71,h⟩ | ⟨h71,h⟩
     ·rcases cond_split h with ⟨h72,h⟩ | ⟨h72,h⟩
      ·have hr:false=r:=Option.some.inj h
       subst hr
       refine ⟨[],?_⟩
       simp only [go_sem,seval,c13_c8,c13_k9,h58,h62,h63,wh65,wh67,wh69,h70,h71,h72] <;> rfl
      ·obtain ⟨d96,h97,h⟩:=obind_some h
       rcases d96 with d98 | d99
       ·have wh97:X pr (.loop c13_1) ⟨[(0,sl 2 vunit a0,false),(1,.int .i64 a1,false),(9,.bool p9,false),(10,sl 1 vint p10,false),(131,sl 1 vint p10,false),(132,.int .i64 ((p10.getD []).length:Int),false),(133,.int .i64 0,false)],[]⟩=some (.ret,⟨[(6,.bool false,false)],[]⟩):=l13_1 a0 a1 p9 p10 h97
        have hr:false=r:=Option.some.inj h
        subst hr
        refine ⟨[],?_⟩
        simp only [go_sem,seval,c13_c8,c13_k9,h58,h62,h63,wh65,wh67,wh69,h70,h71,h72,wh97] <;> rfl
       ·have wh97:X pr (.loop c13_1) ⟨[(0,sl 2 vunit a0,false),(1,.int .i64 a1,false),(9,.bool p9,false),(10,sl 1 vint p10,false),(131,sl 1 vint p10,false),(132,.int .i64 ((p10.getD []).length:Int),false),(133,.int .i64 0,false)],[]⟩=some (.exit 2,⟨[(0,sl 2 vunit a0,false),(1,.int .i64 a1,false),(9,.bool p9,false),(10,sl 1 vint p10,false),(131,sl 1 vint p10,false),(132,.int .i64 ((p10.getD []).length:Int),false),(133,.int .i64 d99,false),(134,.bool false,false)],[]⟩):=l13_1 a0 a1 p9 p10 h97
        obtain ⟨v100,h101,h⟩:=obind_some h
        have wh101:callIso pr (X pr) 84 [sl 2 vunit a0,.int .i64 a1,sl 1 vint p10]=some (.int .i64 v100,false):=W84 h101
        rcases cond_split h with ⟨h102,h⟩ | ⟨h102,h⟩
        ·have hr:false=r:=Option.some.inj h
         subst hr
         refine ⟨[],?_⟩
         simp only [go_sem,seval,c13_c8,c13_k9,h58,h62,h63,wh65,wh67,wh69,h70,h71,h72,wh97,wh101,h102] <;> rfl
        ·rcases cond_split h with ⟨h103,h⟩ | ⟨h103,h⟩
         ·obtain ⟨v104,h105,h⟩:=obind_some h
          have wh105:callIso pr (X pr) 61 [sl 2 vunit v64,.int .i64 (wrapF .i64 (a1 - 1)),.list true 0 []]=some (.int .i64 v104,false):=W61 h105
          rcases cond_split h with ⟨h106,h⟩ | ⟨h106,h⟩
          ·obtain ⟨v107,h108,h⟩:=obind_some h
           obtain ⟨hh,hk⟩:=J13_9 h
           refine ⟨hh,?_⟩
           simp only [go_sem,seval,c13_c8,c13_k9,h58,h62,h63,wh65,wh67,wh69,h70,h71,h72,wh97,wh101,h102,h103,wh105,h106,b_rem_O h108]
           exact hk
          ·obtain ⟨v109,h110,h⟩:=obind_some h
           have wh110:callIso pr (X pr) 61 [sl 2 vunit v64,.int .i64 a1,.list true 0 []]=some (.int .i64 v109,false):=W61 h110
           rcases cond_split h with ⟨h111,h⟩ | ⟨h111,h⟩
           ·have hr:false=r:=Option.some.inj h
            subst hr
            refine ⟨[],?_⟩
            simp only [go_sem,seval,c13_c8,c13_k9,h58,h62,h63,wh65,wh67,wh69,h70,h71,h72,wh97,wh101,h102,h103,wh105,h106,wh110,h111] <;> rfl
           ·obtain ⟨v112,h113,h⟩:=obind_some h
            obtain ⟨hh,hk⟩:=J13_9 h
            refine ⟨hh,?_⟩
            simp only [go_sem,seval,c13_c8,c13_k9,h58,h62,h63,wh65,wh67,wh69,h70,h71,h72,wh97,wh101,h102,h103,wh105,h106,wh110,h111,b_rem_O h113]
            exact hk
         ·obtain ⟨v114,h115,h⟩:=obind_some h
          obtain ⟨hh,hk⟩:=J13_9 h
          refine ⟨hh,?_⟩
          simp only [go_sem,seval,c13_c8,c13_k9,h58,h62,h63,wh65,wh67,wh69,h70,h71,h72,wh97,wh101,h102,h103,b_rem_O h115]
          exact hk
     ·obtain ⟨d139,h140,h⟩:=obind_some h
      rcases d139 with d141 | d142
      ·have wh140:X pr (.loop c13_1) ⟨[(0,sl 2 vunit a0,false),(1,.int .i64 a1,false),(9,.bool p9,false),(10,sl 1 vint p10,false),(131,sl 1 vint p10,false),(132,.int .i64 ((p10.getD []).length:Int),false),(133,.int .i64 0,false)],[]⟩=some (.ret,⟨[(6,.bool false,false)],[]⟩):=l13_1b a0 a1 p9 p10 h140
       have hr:false=r:=Option.some.inj h
       subst hr
       refine ⟨[],?_⟩
       simp only [go_sem,seval,c13_c8,c13_k9,h58,h62,h63,wh65,wh67,wh69,h70,h71,wh140] <;> rfl
      ·have wh140:X pr (.loop c13_1) ⟨[(0,sl 2 vunit a0,false),(1,.int .i64 a1,false),(9,.bool p9,false),(10,sl 1 vint p10,false),(131,sl 1 vint p10,false),(132,.int .i64 ((p10.getD []).length:Int),false),(133,.int .i64 0,false)],[]⟩=some (.exit 2,⟨[(0,sl 2 vunit a0,false),(1,.int .i64 a1,false),(9,.bool p9,false),(10,sl 1 vint p10,false),(131,sl 1 vint p10,false),(132,.int .i64 ((p10.getD []).length:Int),false),(133,.int .i64 d142,false),(134,.bool false,false)],[]⟩):=l13_1b a0 a1 p9 p10 h140
       obtain ⟨v143,h144,h⟩:=obind_some h
       have wh144:callIso pr (X pr) 84 [sl 2 vunit a0,.int .i64 a1,sl 1 vint p10]=some (.int .i64 v143,false):=W84 h144
       rcases cond_split h with ⟨h145,h⟩ | ⟨h145,h⟩
       ·have hr:false=r:=Option.some.inj h
        subst hr
        refine ⟨[],?_⟩
        simp only [go_sem,seval,c13_c8,c13_k9,h58,h62,h63,wh65,wh67,wh69,h70,h71,wh140,wh144,h145] <;> rfl
       ·rcases cond_split h with ⟨h146,h⟩ | ⟨h146,h⟩
        ·obtain ⟨v147,h148,h⟩:=obind_some h
         have wh148:callIso pr (X pr) 61 [sl 2 vunit v64,.int .i64 (wrapF .i64 (a1 - 1)),.list true 0 []]=some (.int .i64 v147,false):=W61 h148
         rcases cond_split h with ⟨h149,h⟩ | ⟨h149,h⟩
         ·obtain ⟨v150,h151,h⟩:=obind_some h
          obtain ⟨hh,hk⟩:=J13_9 h
          refine ⟨hh,?_⟩
          simp only [go_sem,seval,c13_c8,c13_k9,h58,h62,h63,wh65,wh67,wh69,h70,h71,wh140,wh144,h145,h146,wh148,h149,b_rem_O h151]
          exact hk
         ·obtain ⟨v152,h153,h⟩:=obind_some h
          have wh153:callIso pr (X pr) 61 [sl 2 vunit v64,.int .i64 a1,.list true 0 []]=some (.int .i64 v152,false):=W61 h153
          rcases cond_split h with ⟨h154,h⟩ | ⟨h154,h⟩
          ·have hr:false=r:=Option.some.inj h
           subst hr
           refine ⟨[],?_⟩
           simp only [go_sem,seval,c13_c8,c13_k9,h58,h62,h63,wh65,wh67,wh69,h70,h71,wh140,wh144,h145,h146,wh148,h149,wh153,h154] <;> rfl
          ·obtain ⟨v155,h156,h⟩:=obind_some h
           obtain ⟨hh,hk⟩:=J13_9 h
           refine ⟨hh,?_⟩
           simp only [go_sem,seval,c13_c8,c13_k9,h58,h62,h63,wh65,wh67,wh69,h70,h71,wh140,wh144,h145,h146,wh148,h149,wh153,h154,b_rem_O h156]
           exact hk
        ·obtain ⟨v157,h158,h⟩:=obind_some h
         obtain ⟨hh,hk⟩:=J13_9 h
         refine ⟨hh,?_⟩
         simp only [go_sem,seval,c13_c8,c13_k9,h58,h62,h63,wh65,wh67,wh69,h70,h71,wh140,wh144,h145,h146,b_rem_O h158]
         exact hk
    ·have hr:false=r:=Option.some.inj h
     subst hr
     refine ⟨[],?_⟩
     simp only [go_sem,seval,c13_c8,c13_k9,h58,h62,h63,wh65,wh67,wh69,h70] <;> rfl
  ·have hr:false=r:=Option.some.inj h
   subst hr
   refine ⟨[],?_⟩
   simp only [go_sem,seval,c13_c8,c13_k9,h58,h62] <;> rfl
noncomputable def j13_7 (a0:Option (List GUnit)) (a1:Int) (a2:Int) (p7:Option (List Int)) (o7:Bool) (p9:Bool) (p10:Option (List Int)) (p11:Int) (p12:Int) (p98:Bool):Option Bool:=
 cond p98
  (some false)
  (j13_8 a0 a1 a2 p7 o7 p9 p10 p11 p12 p9)
theorem J13_7 {a0:Option (List GUnit)} {a1:Int} {a2:Int} {p7:Option (List Int)} {o7:Bool} {p9:Bool} {p10:Option (List Int)} {p11:Int} {p12:Int} {p98:Bool} {r} (h:j13_7 a0 a1 a2 p7 o7 p9 p10 p11 p12 p98=some r):∃ hh,thenX (X pr c13_c7 ⟨[(0,sl 2 vunit a0,false),(1,.int .i64 a1,false),(7,sl 1 vint p7,o7),(9,.bool p9,false),(10,sl 1 vint p10,false),(11,.int .i64 p11,false),(12,.int .i64 p12,false),(98,.bool p98,false)],[]⟩) (X pr c13_k8)=some (.ret,⟨[(6,.bool r,false)],hh⟩):=by
 unfold j13_7 at h
 rcases cond_split h with ⟨h57,h⟩ | ⟨h57,h⟩
 ·have hr:false=r:=Option.some.inj h
  subst hr
  refine ⟨[],?_⟩
  simp only [go_sem,seval,c13_c7,c13_k8,h57] <;> rfl
 ·obtain ⟨hh,hk⟩:=J13_8 h
  refine ⟨hh,?_⟩
  simp only [go_sem,seval,c13_c7,c13_k8,h57]
  exact hk
noncomputable def j13_1 (a0:Option (List GUnit)) (a1:Int) (a2:Int) (p40:Bool):Option Bool:=
 cond p40
  (obind (E14) fun v11=>
  some v11)
  (obind (itO (s13_0 a0 a1 a2) (none,0,false)) fun d37=>
  obind (f83 9 a0 a1 [false,false,false,false,false,false,false,false]) fun v39=>
  obind (E18 a0) fun v41=>
  obind (f60 v41 a1) fun v43=>
  obind (E62 d37.1) fun v45=>
  obind (f61 v41 a1 v45) fun v47=>
  cond (decide (v47=0))
   (obind (f84 a0 a1 d37.1) fun v50=>
   cond (true == decide (((d37.1.getD []).length:Int) < v50))
    (j13_7 a0 a1 a2 d37.1 d37.2.1 v39 v43.1 v43.2 v47 v39)
    (j13_7 a0 a1 a2 d37.1 d37.2.1 v39 v43.1 v43.2 v47 true))
   (cond (decide (v47=22))
    (obind (f84 a0 a1 d37.1) fun v54=>
    cond (false == decide (((d37.1.getD []).length:Int) < v54))
     (j13_7 a0 a1 a2 d37.1 d37.2.1 v39 v43.1 v43.2 v47 false)
     (j13_7 a0 a1 a2 d37.1 d37.2.1 v39 v43.1 v43.2 v47 true))
    (j13_7 a0 a1 a2 d37.1 d37.2.1 v39 v43.1 v43.2 v47 true)))
theorem J13_1 {a0:Option (List GUnit)} {a1:Int} {a2:Int} {p40:Bool} {r} (h:j13_1 a0 a1 a2 p40=some r):∃ hh,thenX (X pr c13_c1 ⟨[(0,sl 2 vunit a0,false),(1,.int .i64 a1,false),(2,.int .u8 a2,false),(40,.bool p40,false)],[]⟩) (X pr c13_k2)=some (.ret,⟨[(6,.bool r,false)],hh⟩):=by
 unfold j13_1 at h
 rcases cond_split h with ⟨h10,h⟩ | ⟨h10,h⟩
 ·obtain ⟨v11,h12,h⟩:=obind_some h
  have wh12:callIso pr (X pr) 14 []=some (.bool v11,false):=WE14 h12
  have hr:v11=r:=Option.some.inj h
  subst hr
  refine ⟨[],?_⟩
  simp only [go_sem,seval,c13_c1,c13_k2,h10,wh12] <;> rfl
 ·obtain ⟨d37,h38,h⟩:=obind_some h
  have wh38:X pr (.loop c13_0) ⟨[(0,sl 2 vunit a0,false),(1,.int .i64 a1,false),(2,.int .u8 a2,false),(7,.list true 0 [],false),(43,.int .i64 ((a0.getD []).length:Int),false),(44,.int .i64 0,false)],[]⟩=some (.exit 0,⟨[(0,sl 2 vunit a0,false),(1,.int .i64 a1,false),(2,.int .u8 a2,false),(7,sl 1 vint d37.1,d37.2.1),(43,.int .i64 ((a0.getD []).length:Int),false),(44,.int .i64 d37.2.2,false),(45,.bool false,false)],[]⟩):=l13_0 a0 a1 a2 h38
  obtain ⟨v39,h40,h⟩:=obind_some h
  have wh40:callIso pr (X pr) 83 [sl 2 vunit a0,.int .i64 a1,.agg [.bool false,.bool false,.bool false,.bool false,.bool false,.bool false,.bool false,.bool false]]=some (.bool v39,false):=W83 9 h40
  obtain ⟨v41,h42,h⟩:=obind_some h
  have wh42:callIso pr (X pr) 18 [sl 2 vunit a0]=some (sl 2 vunit v41,(accO (a0.getD []))):=WE18 h42
  obtain ⟨v43,h44,h⟩:=obind_some h
  have wh44:callIso pr (X pr) 60 [sl 2 vunit v41,.int .i64 a1]=some (.tup [sl 1 vint v43.1,.int .i64 v43.2],false):=W60 h44
  obtain ⟨v45,h46,h⟩:=obind_some h
  have wh46:callIso pr (X pr) 62 [sl 1 vint d37.1]=some (sl 1 vint v45,true):=WE62 h46
  obtain ⟨v47,h48,h⟩:=obind_some h
  have wh48:callIso pr (X pr) 61 [sl 2 vunit v41,.int .i64 a1,sl 1 vint v45]=some (.int .i64 v47,false):=W61 h48
  rcases cond_split h with ⟨h49,h⟩ | ⟨h49,h⟩
  ·obtain ⟨v50,h51,h⟩:=obind_some h
   have wh51:callIso pr (X pr) 84 [sl 2 vunit a0,.int .i64 a1,sl 1 vint d37.1]=some (.int .i64 v50,false):=W84 h51
   rcases cond_split h with ⟨h52,h⟩ | ⟨h52,h⟩
   ·obtain ⟨hh,hk⟩:=J13_7 h
    refine ⟨hh,?_⟩
    simp only [go_sem,seval,c13_c1,c13_k2,h10,wh38,wh40,wh42,wh44,wh46,wh48,h49,wh51,h52]
    exact hk
   ·obtain ⟨hh,hk⟩:=J13_7 h
    refine ⟨hh,?_⟩
    simp only [go_sem,seval,c13_c1,c13_k2,h10,wh38,wh40,wh42,wh44,wh46,wh48,h49,wh51,h52]
    exact hk
  ·rcases cond_split h with ⟨h53,h⟩ | ⟨h53,h⟩
   ·obtain ⟨v54,h55,h⟩:=obind_some h
    have wh55:callIso pr (X pr) 84 [sl 2 vunit a0,.int .i64 a1,sl 1 vint d37.1]=some (.int .i64 v54,false):=W84 h55
    rcases cond_split h with ⟨h56,h⟩ | ⟨h56,h⟩
    ·obtain ⟨hh,hk⟩:=J13_7 h
     refine ⟨hh,?_⟩
     simp only [go_sem,seval,c13_c1,c13_k2,h10,wh38,wh40,wh42,wh44,wh46,wh48,h49,h53,wh55,h56]
     exact hk
    ·obtain ⟨hh,hk⟩:=J13_7 h
     refine ⟨hh,?_⟩
     simp only [go_sem,seval,c13_c1,c13_k2,h10,wh38,wh40,wh42,wh44,wh46,wh48,h49,h53,wh55,h56]
     exact hk
   ·obtain ⟨hh,hk⟩:=J13_7 h
    refine ⟨hh,?_⟩
    simp only [go_sem,seval,c13_c1,c13_k2,h10,wh38,wh40,wh42,wh44,wh46,wh48,h49,h53]
    exact hk
noncomputable def f13 (a0:Option (List GUnit)) (a1:Int) (a2:Int):Option Bool:=
 obind (E14) fun v1=>
 cond v1
  (cond (decide (8 < ((a0.getD []).length:Int)))
   (j13_1 a0 a1 a2 true)
   (obind (E22w a0) fun v5=>
   cond (decide (v5=0))
    (obind (f63 a1) fun v8=>
    j13_1 a0 a1 a2 (!decide (v8=0)))
    (j13_1 a0 a1 a2 true)))
  (j13_1 a0 a1 a2 true)
theorem W13 {a0:Option (List GUnit)} {a1:Int} {a2:Int} {r} (h:f13 a0 a1 a2=some r):callIso pr (X pr) 13 [sl 2 vunit a0,.int .i64 a1,.int .u8 a2]=some (.bool r,false):=by
 unfold f13 at h
 obtain ⟨v1,h2,h⟩:=obind_some h
 have wh2:callIso pr (X pr) 14 []=some (.bool v1,false):=WE14 h2
 rcases cond_split h with ⟨h3,h⟩ | ⟨h3,h⟩
 ·rcases cond_split h with ⟨h4,h⟩ | ⟨h4,h⟩
  ·obtain ⟨hh,hk⟩:=J13_1 h
   have this:callFn pr (X pr) 13 [sl 2 vunit a0,.int .i64 a1,.int .u8 a2] []=some (.bool r,false,hh):=by
    rw [callFn_at (show pr.fns 13=some c13 from rfl) (by simp)]
    simp only [go_sem,seval,c13,wh2,h3,h4]
    rw [hk]
    rfl
   exact callIso_of rfl this (by first | rfl | simp only [go_sem,seval]) (by first | rfl | simp only [go_sem,seval])
  ·obtain ⟨v5,h6,h⟩:=obind_some h
   have wh6:callIso pr (X pr) 22 [sl 2 vunit a0]=some (.int .i64 v5,false):=WE22w h6
   rcases cond_split h with ⟨h7,h⟩ | ⟨h7,h⟩
   ·obtain ⟨v8,h9,h⟩:=obind_some h
    have wh9:callIso pr (X pr) 63 [.int .i64 a1]=some (.int .i64 v8,false):=W63 h9
    obtain ⟨hh,hk⟩:=J13_1 h
    have this:callFn pr (X pr) 13 [sl 2 vunit a0,.int .i64 a1,.int .u8 a2] []=some (.bool r,false,hh):=by
     rw [callFn_at (show pr.fns 13=some c13 from rfl) (by simp)]
     simp only [go_sem,seval,c13,wh2,h3,h4,wh6,h7,wh9]
     rw [hk]
     rfl
    exact callIso_of rfl this (by first | rfl | simp only [go_sem,seval]) (by first | rfl | simp only [go_sem,seval])
   ·obtain ⟨hh,hk⟩:=J13_1 h
    have this:callFn pr (X pr) 13 [sl 2 vunit a0,.int .i64 a1,.int .u8 a2] []=some (.bool r,false,hh):=by
     rw [callFn_at (show pr.fns 13=some c13 from rfl) (by simp)]
     simp only [go_sem,seval,c13,wh2,h3,h4,wh6,h7]
     rw [hk]
     rfl
    exact callIso_of rfl this (by first | rfl | simp only [go_sem,seval]) (by first | rfl | simp only [go_sem,seval])
 ·obtain ⟨hh,hk⟩:=J13_1 h
  have this:callFn pr (X pr) 13 [sl 2 vunit a0,.int .i64 a1,.int .u8 a2] []=some (.bool r,false,hh):=by
   rw [callFn_at (show pr.fns 13=some c13 from rfl) (by simp)]
   simp only [go_sem,seval,c13,wh2,h3]
   rw [hk]
   rfl
  exact callIso_of rfl this (by first | rfl | simp only [go_sem,seval]) (by first | rfl | simp only [go_sem,seval])
end Go.Z
