/-
  LineTurned: the law: a function that mirrors the run, and the run (printed by walk.py).
-/
import Derived.Test.YtbkpojiedkhfkaaGreatT3
set_option linter.unusedVariables false
set_option linter.unusedSimpArgs false
set_option maxRecDepth 100000
set_option maxHeartbeats 4000000
namespace Go.Z
open Go Go.Abs
noncomputable def s8_1 (a0:Option (List GUnit)) (a2:Int) (v11:Option (List Int)) (s0:(Option (List GUnit)) × (Option (List GUnit)) × (Option (List GUnit)) × Int × Bool × Bool × Bool) (v253:GUnit) (v260:Option (List GUnit)) (s1:Int × (Option (List Int)) × (Option (List Int)) × Bool × Bool):Option ((Int × (Option (List Int)) × (Option (List Int)) × Bool × Bool) ⊕ ((Int × (Option (List Int)) × Bool × (Option (List Int)) × Bool))):=
 cond (decide (s1.1 < ((v253.values.getD []).length:Int)))
  (obind (idxO (v253.values.getD []) s1.1) fun v287=>
  cond s1.2.2.2.1
   (obind (apO s1.2.1 [wrapF .i64 (v287 + (wrapF .i64 a2))]) fun v290=>
   cond s1.2.2.2.2
    (obind (apO s1.2.2.1 [wrapF .i64 (0 - v287)]) fun v293=>
    some (.inl (wrapF .i64 (s1.1 + 1),v290,v293,true,true)))
    (cond s1.2.2.1.isNone
     (obind (apO s1.2.2.1 [wrapF .i64 (0 - v287)]) fun v296=>
     some (.inl (wrapF .i64 (s1.1 + 1),v290,v296,true,true)))
     (none)))
   (cond s1.2.1.isNone
    (obind (apO s1.2.1 [wrapF .i64 (v287 + (wrapF .i64 a2))]) fun v299=>
    cond s1.2.2.2.2
     (obind (apO s1.2.2.1 [wrapF .i64 (0 - v287)]) fun v302=>
     some (.inl (wrapF .i64 (s1.1 + 1),v299,v302,true,true)))
     (cond s1.2.2.1.isNone
      (obind (apO s1.2.2.1 [wrapF .i64 (0 - v287)]) fun v305=>
      some (.inl (wrapF .i64 (s1.1 + 1),v299,v305,true,true)))
      (none)))
    (none)))
  (some (.inr (s1.1,s1.2.1,s1.2.2.2.1,s1.2.2.1,s1.2.2.2.2)))
def St8_1 (a0:Option (List GUnit)) (a2:Int) (v11:Option (List Int)) (s0:(Option (List GUnit)) × (Option (List GUnit)) × (Option (List GUnit)) × Int × Bool × Bool × Bool) (v253:GUnit) (v260:Option (List GUnit)) (s1:Int × (Option (List Int)) × (Option (List Int)) × Bool × Bool):ASt:=⟨[(0,sl 2 vunit a0,false),(2,.int .u8 a2,false),(7,sl 1 vint v11,false),(8,sl 2 vunit v260,true),(9,sl 2 vunit s0.2.1,s0.2.2.2.2.2.1),(10,sl 2 vunit s0.2.2.1,s0.2.2.2.2.2.2),(13,.ptr 1 0,false),(14,.ptr 2 0,false),(69,sl 2 vunit a0,false),(70,.int .i64 ((a0.getD []).length:Int),false),(71,.int .i64 s0.2.2.2.1,false),(93,sl 1 vint v253.values,false),(94,.int .i64 ((v253.values.getD []).length:Int),false),(95,.int .i64 s1.1,false)],[.cells [(.str v253.serial,false),(sl 1 vint v253.values,false)],.cells [(.str v253.serial,false),(sl 1 vint s1.2.1,s1.2.2.2.1)],.cells [(.str v253.serial,false),(sl 1 vint s1.2.2.1,s1.2.2.2.2)]]⟩
def Ex8_1 (a0:Option (List GUnit)) (a2:Int) (v11:Option (List Int)) (s0:(Option (List GUnit)) × (Option (List GUnit)) × (Option (List GUnit)) × Int × Bool × Bool × Bool) (v253:GUnit) (v260:Option (List GUnit)) (d:(Int × (Option (List Int)) × Bool × (Option (List Int)) × Bool)):AExit × ASt:=(.exit 2,⟨[(0,sl 2 vunit a0,false),(2,.int .u8 a2,false),(7,sl 1 vint v11,false),(8,sl 2 vunit v260,true),(9,sl 2 vunit s0.2.1,s0.2.2.2.2.2.1),(10,sl 2 vunit s0.2.2.1,s0.2.2.2.2.2.2),(13,.ptr 1 0,false),(14,.ptr 2 0,false),(69,sl 2 vunit a0,false),(70,.int .i64 ((a0.getD []).length:Int),false),(71,.int .i64 s0.2.2.2.1,false),(93,sl 1 vint v253.values,false),(94,.int .i64 ((v253.values.getD []).length:Int),false),(95,.int .i64 d.1,false),(96,.bool false,false)],[.cells [(.str v253.serial,false),(sl 1 vint v253.values,false)],.cells [(.str v253.serial,false),(sl 1 vint d.2.1,d.2.2.1)],.cells [(.str v253.serial,false),(sl 1 vint d.2.2.2.1,d.2.2.2.2)]]⟩)
theorem b8_1 (a0:Option (List GUnit)) (a2:Int) (v11:Option (List Int)) (s0:(Option (List GUnit)) × (Option (List GUnit)) × (Option (List GUnit)) × Int × Bool × Bool × Bool) (v253:GUnit) (v260:Option (List GUnit)) (s1:Int × (Option (List Int)) × (Option (List Int)) × Bool × Bool) (r) (h:s8_1 a0 a2 v11 s0 v253 v260 s1=some r):stepO prT c8_1 (St8_1 a0 a2 v11 s0 v253 v260) (Ex8_1 a0 a2 v11 s0 v253 v260) s1 r:=by
 unfold s8_1 at h
 rcases cond_split h with ⟨h286,h⟩ | ⟨h286,h⟩
 ·obtain ⟨v287,h288,h⟩:=obind_some h
  rcases cond_split h with ⟨h289,h⟩ | ⟨h289,h⟩
  ·obtain ⟨v290,h291,h⟩:=obind_some h
   rcases cond_split h with ⟨h292,h⟩ | ⟨h292,h⟩
   ·obtain ⟨v293,h294,h⟩:=obind_some h
    cases h
    exact stepO_in (st':=⟨[(0,sl 2 vunit a0,false),(2,.int .u8 a2,false),(7,sl 1 vint v11,false),(8,sl 2 vunit v260,true),(9,sl 2 vunit s0.2.1,s0.2.2.2.2.2.1),(10,sl 2 vunit s0.2.2.1,s0.2.2.2.2.2.2),(13,.ptr 1 0,false),(14,.ptr 2 0,false),(69,sl 2 vunit a0,false),(70,.int .i64 ((a0.getD []).length:Int),false),(71,.int .i64 s0.2.2.2.1,false),(93,sl 1 vint v253.values,false),(94,.int .i64 ((v253.values.getD []).length:Int),false),(95,.int .i64 (wrapF .i64 (s1.1 + 1)),false)],[.cells [(.str v253.serial,false),(sl 1 vint v253.values,false)],.cells [(.str v253.serial,false),(sl 1 vint v290,true)],.cells [(.str v253.serial,false),(sl 1 vint v293,true)]]⟩) (by simp only [go_sem,seval,c8_1,St8_1,h286,idxR_O h288,h289,app_vint_O h291,h292,app_vint_O h294] <;> rfl) (gc_same (Nat.le_refl _))
   ·rcases cond_split h with ⟨h295,h⟩ | ⟨h295,h⟩
    ·obtain ⟨v296,h297,h⟩:=obind_some h
     cases h
     exact stepO_in (st':=⟨[(0,sl 2 vunit a0,false),(2,.int .u8 a2,false),(7,sl 1 vint v11,false),(8,sl 2 vunit v260,true),(9,sl 2 vunit s0.2.1,s0.2.2.2.2.2.1),(10,sl 2 vunit s0.2.2.1,s0.2.2.2.2.2.2),(13,.ptr 1 0,false),(14,.ptr 2 0,false),(69,sl 2 vunit a0,false),(70,.int .i64 ((a0.getD []).length:Int),false),(71,.int .i64 s0.2.2.2.1,false),(93,sl 1 vint v253.values,false),(94,.int .i64 ((v253.values.getD []).length:Int),false),(95,.int .i64 (wrapF .i64 (s1.1 + 1)),false)],[.cells [(.str v253.serial,false),(sl 1 vint v253.values,false)],.cells [(.str v253.serial,false),(sl 1 vint v290,true)],.cells [(.str v253.serial,false),(sl 1 vint v296,true)]]⟩) (by simp only [go_sem,seval,c8_1,St8_1,h286,idxR_O h288,h289,app_vint_O h291,h292,h295,app_vint_N h297 h295] <;> rfl) (gc_same (Nat.le_refl _))
    ·cases h
  ·rcases cond_split h with ⟨h298,h⟩ | ⟨h298,h⟩
   ·obtain ⟨v299,h300,h⟩:=obind_some h
    rcases cond_split h with ⟨h301,h⟩ | ⟨h301,h⟩
    ·obtain ⟨v302,h303,h⟩:=obind_some h
     cases h
     exact stepO_in (st':=⟨[(0,sl 2 vunit a0,false),(2,.int .u8 a2,false),(7,sl 1 vint v11,false),(8,sl 2 vunit v260,true),(9,sl 2 vunit s0.2.1,s0.2.2.2.2.2.1),(10,sl 2 vunit s0.2.2.1,s0.2.2.2.2.2.2),(13,.ptr 1 0,false),(14,.ptr 2 0,false),(69,sl 2 vunit a0,false),(70,.int .i64 ((a0.getD []).length:Int),false),(71,.int .i64 s0.2.2.2.1,false),(93,sl 1 vint v253.values,false),(94,.int .i64 ((v253.values.getD []).length:Int),false),(95,.int .i64 (wrapF .i64 (s1.1 + 1)),false)],[.cells [(.str v253.serial,false),(sl 1 vint v253.values,false)],.cells [(.str v253.serial,false),(sl 1 vint v299,true)],.cells [(.str v253.serial,false),(sl 1 vint v302,true)]]⟩) (by simp only [go_sem,seval,c8_1,St8_1,h286,idxR_O h288,h289,h298,app_vint_N h300 h298,h301,app_vint_O h303] <;> rfl) (gc_same (Nat.le_refl _))
    ·rcases cond_split h with ⟨h304,h⟩ | ⟨h304,h⟩
     ·obtain ⟨v305,h306,h⟩:=obind_some h
      cases h
      exact stepO_in (st':=⟨[(0,sl 2 vunit a0,false),(2,.int .u8 a2,false),(7,sl 1 vint v11,false),(8,sl 2 vunit v260,true),(9,sl 2 vunit s0.2.1,s0.2.2.2.2.2.1),(10,sl 2 vunit s0.2.2.1,s0.2.2.2.2.2.2),(13,.ptr 1 0,false),(14,.ptr 2 0,false),(69,sl 2 vunit a0,false),(70,.int .i64 ((a0.getD []).length:Int),false),(71,.int .i64 s0.2.2.2.1,false),(93,sl 1 vint v253.values,false),(94,.int .i64 ((v253.values.getD []).length:Int),false),(95,.int .i64 (wrapF .i64 (s1.1 + 1)),false)],[.cells [(.str v253.serial,false),(sl 1 vint v253.values,false)],.cells [(.str v253.serial,false),(sl 1 vint v299,true)],.cells [(.str v253.serial,false),(sl 1 vint v305,true)]]⟩) (by simp only [go_sem,seval,c8_1,St8_1,h286,idxR_O h288,h289,h298,app_vint_N h300 h298,h301,h304,app_vint_N h306 h304] <;> rfl) (gc_same (Nat.le_refl _))
     ·cases h
   ·cases h
 ·cases h
  exact stepO_out (by simp only [go_sem,seval,c8_1,St8_1,h286,Ex8_1] <;> rfl)
theorem l8_1 (a0:Option (List GUnit)) (a2:Int) (v11:Option (List Int)) (s0:(Option (List GUnit)) × (Option (List GUnit)) × (Option (List GUnit)) × Int × Bool × Bool × Bool) (v253:GUnit) (v260:Option (List GUnit)) {s1:Int × (Option (List Int)) × (Option (List Int)) × Bool × Bool} {d} (h:itO (s8_1 a0 a2 v11 s0 v253 v260) s1=some d):X prT (.loop c8_1) (St8_1 a0 a2 v11 s0 v253 v260 s1)=some (Ex8_1 a0 a2 v11 s0 v253 v260 d):=X_itO (b8_1 a0 a2 v11 s0 v253 v260) (fun d hh=>by cases hh) h
noncomputable def s8_1b (a0:Option (List GUnit)) (a2:Int) (v11:Option (List Int)) (s0:(Option (List GUnit)) × (Option (List GUnit)) × (Option (List GUnit)) × Int × Bool × Bool × Bool) (v253:GUnit) (v328:Option (List GUnit)) (s1:Int × (Option (List Int)) × (Option (List Int)) × Bool × Bool):Option ((Int × (Option (List Int)) × (Option (List Int)) × Bool × Bool) ⊕ ((Int × (Option (List Int)) × Bool × (Option (List Int)) × Bool))):=
 cond (decide (s1.1 < ((v253.values.getD []).length:Int)))
  (obind (idxO (v253.values.getD []) s1.1) fun v355=>
  cond s1.2.2.2.1
   (obind (apO s1.2.1 [wrapF .i64 (v355 + (wrapF .i64 a2))]) fun v358=>
   cond s1.2.2.2.2
    (obind (apO s1.2.2.1 [wrapF .i64 (0 - v355)]) fun v361=>
    some (.inl (wrapF .i64 (s1.1 + 1),v358,v361,true,true)))
    (cond s1.2.2.1.isNone
     (obind (apO s1.2.2.1 [wrapF .i64 (0 - v355)]) fun v364=>
     some (.inl (wrapF .i64 (s1.1 + 1),v358,v364,true,true)))
     (none)))
   (cond s1.2.1.isNone
    (obind (apO s1.2.1 [wrapF .i64 (v355 + (wrapF .i64 a2))]) fun v367=>
    cond s1.2.2.2.2
     (obind (apO s1.2.2.1 [wrapF .i64 (0 - v355)]) fun v370=>
     some (.inl (wrapF .i64 (s1.1 + 1),v367,v370,true,true)))
     (cond s1.2.2.1.isNone
      (obind (apO s1.2.2.1 [wrapF .i64 (0 - v355)]) fun v373=>
      some (.inl (wrapF .i64 (s1.1 + 1),v367,v373,true,true)))
      (none)))
    (none)))
  (some (.inr (s1.1,s1.2.1,s1.2.2.2.1,s1.2.2.1,s1.2.2.2.2)))
def St8_1b (a0:Option (List GUnit)) (a2:Int) (v11:Option (List Int)) (s0:(Option (List GUnit)) × (Option (List GUnit)) × (Option (List GUnit)) × Int × Bool × Bool × Bool) (v253:GUnit) (v328:Option (List GUnit)) (s1:Int × (Option (List Int)) × (Option (List Int)) × Bool × Bool):ASt:=⟨[(0,sl 2 vunit a0,false),(2,.int .u8 a2,false),(7,sl 1 vint v11,false),(8,sl 2 vunit v328,true),(9,sl 2 vunit s0.2.1,s0.2.2.2.2.2.1),(10,sl 2 vunit s0.2.2.1,s0.2.2.2.2.2.2),(13,.ptr 1 0,false),(14,.ptr 2 0,false),(69,sl 2 vunit a0,false),(70,.int .i64 ((a0.getD []).length:Int),false),(71,.int .i64 s0.2.2.2.1,false),(93,sl 1 vint v253.values,false),(94,.int .i64 ((v253.values.getD []).length:Int),false),(95,.int .i64 s1.1,false)],[.cells [(.str v253.serial,false),(sl 1 vint v253.values,false)],.cells [(.str v253.serial,false),(sl 1 vint s1.2.1,s1.2.2.2.1)],.cells [(.str v253.serial,false),(sl 1 vint s1.2.2.1,s1.2.2.2.2)]]⟩
def Ex8_1b (a0:Option (List GUnit)) (a2:Int) (v11:Option (List Int)) (s0:(Option (List GUnit)) × (Option (List GUnit)) × (Option (List GUnit)) × Int × Bool × Bool × Bool) (v253:GUnit) (v328:Option (List GUnit)) (d:(Int × (Option (List Int)) × Bool × (Option (List Int)) × Bool)):AExit × ASt:=(.exit 2,⟨[(0,sl 2 vunit a0,false),(2,.int .u8 a2,false),(7,sl 1 vint v11,false),(8,sl 2 vunit v328,true),(9,sl 2 vunit s0.2.1,s0.2.2.2.2.2.1),(10,sl 2 vunit s0.2.2.1,s0.2.2.2.2.2.2),(13,.ptr 1 0,false),(14,.ptr 2 0,false),(69,sl 2 vunit a0,false),(70,.int .i64 ((a0.getD []).length:Int),false),(71,.int .i64 s0.2.2.2.1,false),(93,sl 1 vint v253.values,false),(94,.int .i64 ((v253.values.getD []).length:Int),false),(95,.int .i64 d.1,false),(96,.bool false,false)],[.cells [(.str v253.serial,false),(sl 1 vint v253.values,false)],.cells [(.str v253.serial,false),(sl 1 vint d.2.1,d.2.2.1)],.cells [(.str v253.serial,false),(sl 1 vint d.2.2.2.1,d.2.2.2.2)]]⟩)
theorem b8_1b (a0:Option (List GUnit)) (a2:Int) (v11:Option (List Int)) (s0:(Option (List GUnit)) × (Option (List GUnit)) × (Option (List GUnit)) × Int × Bool × Bool × Bool) (v253:GUnit) (v328:Option (List GUnit)) (s1:Int × (Option (List Int)) × (Option (List Int)) × Bool × Bool) (r) (h:s8_1b a0 a2 v11 s0 v253 v328 s1=some r):stepO prT c8_1 (St8_1b a0 a2 v11 s0 v253 v328) (Ex8_1b a0 a2 v11 s0 v253 v328) s1 r:=by
 unfold s8_1b at h
 rcases cond_split h with ⟨h354,h⟩ | ⟨h354,h⟩
 ·obtain ⟨v355,h356,h⟩:=obind_some h
  rcases cond_split h with ⟨h357,h⟩ | ⟨h357,h⟩
  ·obtain ⟨v358,h359,h⟩:=obind_some h
   rcases cond_split h with ⟨h360,h⟩ | ⟨h360,h⟩
   ·obtain ⟨v361,h362,h⟩:=obind_some h
    cases h
    exact stepO_in (st':=⟨[(0,sl 2 vunit a0,false),(2,.int .u8 a2,false),(7,sl 1 vint v11,false),(8,sl 2 vunit v328,true),(9,sl 2 vunit s0.2.1,s0.2.2.2.2.2.1),(10,sl 2 vunit s0.2.2.1,s0.2.2.2.2.2.2),(13,.ptr 1 0,false),(14,.ptr 2 0,false),(69,sl 2 vunit a0,false),(70,.int .i64 ((a0.getD []).length:Int),false),(71,.int .i64 s0.2.2.2.1,false),(93,sl 1 vint v253.values,false),(94,.int .i64 ((v253.values.getD []).length:Int),false),(95,.int .i64 (wrapF .i64 (s1.1 + 1)),false)],[.cells [(.str v253.serial,false),(sl 1 vint v253.values,false)],.cells [(.str v253.serial,false),(sl 1 vint v358,true)],.cells [(.str v253.serial,false),(sl 1 vint v361,true)]]⟩) (by simp only [go_sem,seval,c8_1,St8_1b,h354,idxR_O h356,h357,app_vint_O h359,h360,app_vint_O h362] <;> rfl) (gc_same (Nat.le_refl _))
   ·rcases cond_split h with ⟨h363,h⟩ | ⟨h363,h⟩
    ·obtain ⟨v364,h365,h⟩:=obind_some h
     cases h
     exact stepO_in (st':=⟨[(0,sl 2 vunit a0,false),(2,.int .u8 a2,false),(7,sl 1 vint v11,false),(8,sl 2 vunit v328,true),(9,sl 2 vunit s0.2.1,s0.2.2.2.2.2.1),(10,sl 2 vunit s0.2.2.1,s0.2.2.2.2.2.2),(13,.ptr 1 0,false),(14,.ptr 2 0,false),(69,sl 2 vunit a0,false),(70,.int .i64 ((a0.getD []).length:Int),false),(71,.int .i64 s0.2.2.2.1,false),(93,sl 1 vint v253.values,false),(94,.int .i64 ((v253.values.getD []).length:Int),false),(95,.int .i64 (wrapF .i64 (s1.1 + 1)),false)],[.cells [(.str v253.serial,false),(sl 1 vint v253.values,false)],.cells [(.str v253.serial,false),(sl 1 vint v358,true)],.cells [(.str v253.serial,false),(sl 1 vint v364,true)]]⟩) (by simp only [go_sem,seval,c8_1,St8_1b,h354,idxR_O h356,h357,app_vint_O h359,h360,h363,app_vint_N h365 h363] <;> rfl) (gc_same (Nat.le_refl _))
    ·cases h
  ·rcases cond_split h with ⟨h366,h⟩ | ⟨h366,h⟩
   ·obtain ⟨v367,h368,h⟩:=obind_some h
    rcases cond_split h with ⟨h369,h⟩ | ⟨h369,h⟩
    ·obtain ⟨v370,h371,h⟩:=obind_some h
     cases h
     exact stepO_in (st':=⟨[(0,sl 2 vunit a0,false),(2,.int .u8 a2,false),(7,sl 1 vint v11,false),(8,sl 2 vunit v328,true),(9,sl 2 vunit s0.2.1,s0.2.2.2.2.2.1),(10,sl 2 vunit s0.2.2.1,s0.2.2.2.2.2.2),(13,.ptr 1 0,false),(14,.ptr 2 0,false),(69,sl 2 vunit a0,false),(70,.int .i64 ((a0.getD []).length:Int),false),(71,.int .i64 s0.2.2.2.1,false),(93,sl 1 vint v253.values,false),(94,.int .i64 ((v253.values.getD []).length:Int),false),(95,.int .i64 (wrapF .i64 (s1.1 + 1)),false)],[.cells [(.str v253.serial,false),(sl 1 vint v253.values,false)],.cells [(.str v253.serial,false),(sl 1 vint v367,true)],.cells [(.str v253.serial,false),(sl 1 vint v370,true)]]⟩) (by simp only [go_sem,seval,c8_1,St8_1b,h354,idxR_O h356,h357,h366,app_vint_N h368 h366,h369,app_vint_O h371] <;> rfl) (gc_same (Nat.le_refl _))
    ·rcases cond_split h with ⟨h372,h⟩ | ⟨h372,h⟩
     ·obtain ⟨v373,h374,h⟩:=obind_some h
      cases h
      exact stepO_in (st':=⟨[(0,sl 2 vunit a0,false),(2,.int .u8 a2,false),(7,sl 1 vint v11,false),(8,sl 2 vunit v328,true),(9,sl 2 vunit s0.2.1,s0.2.2.2.2.2.1),(10,sl 2 vunit s0.2.2.1,s0.2.2.2.2.2.2),(13,.ptr 1 0,false),(14,.ptr 2 0,false),(69,sl 2 vunit a0,false),(70,.int .i64 ((a0.getD []).length:Int),false),(71,.int .i64 s0.2.2.2.1,false),(93,sl 1 vint v253.values,false),(94,.int .i64 ((v253.values.getD []).length:Int),false),(95,.int .i64 (wrapF .i64 (s1.1 + 1)),false)],[.cells [(.str v253.serial,false),(sl 1 vint v253.values,false)],.cells [(.str v253.serial,false),(sl 1 vint v367,true)],.cells [(.str v253.serial,false),(sl 1 vint v373,true)]]⟩) (by simp only [go_sem,seval,c8_1,St8_1b,h354,idxR_O h356,h357,h366,app_vint_N h368 h366,h369,h372,app_vint_N h374 h372] <;> rfl) (gc_same (Nat.le_refl _))
     ·cases h
   ·cases h
 ·cases h
  exact stepO_out (by simp only [go_sem,seval,c8_1,St8_1b,h354,Ex8_1b] <;> rfl)
theorem l8_1b (a0:Option (List GUnit)) (a2:Int) (v11:Option (List Int)) (s0:(Option (List GUnit)) × (Option (List GUnit)) × (Option (List GUnit)) × Int × Bool × Bool × Bool) (v253:GUnit) (v328:Option (List GUnit)) {s1:Int × (Option (List Int)) × (Option (List Int)) × Bool × Bool} {d} (h:itO (s8_1b a0 a2 v11 s0 v253 v328) s1=some d):X prT (.loop c8_1) (St8_1b a0 a2 v11 s0 v253 v328 s1)=some (Ex8_1b a0 a2 v11 s0 v253 v328 d):=X_itO (b8_1b a0 a2 v11 s0 v253 v328) (fun d hh=>by cases hh) h
noncomputable def s8_0 (a0:Option (List GUnit)) (a2:Int) (v11:Option (List Int)) (s0:(Option (List GUnit)) × (Option (List GUnit)) × (Option (List GUnit)) × Int × Bool × Bool × Bool):Option (((Option (List GUnit)) × (Option (List GUnit)) × (Option (List GUnit)) × Int × Bool × Bool × Bool) ⊕ (((Option (List GUnit)) × Bool × (Option (List GUnit)) × Bool × (Option (List GUnit)) × Bool × Int))):=
 cond (decide (s0.2.2.2.1 < ((a0.getD []).length:Int)))
  (obind (idxO (a0.getD []) s0.2.2.2.1) fun v253=>
  obind (idxO (v11.getD []) s0.2.2.2.1) fun v255=>
  obind (idxO (a0.getD []) v255) fun v257=>
  cond s0.2.2.2.2.1
   (obind (apO s0.1 [v257]) fun v260=>
   obind (itO (s8_1 a0 a2 v11 s0 v253 v260) (0,none,none,false,false)) fun d307=>
   cond s0.2.2.2.2.2.1
    (obind (apO s0.2.1 [⟨v253.serial,d307.2.1⟩]) fun v310=>
    cond s0.2.2.2.2.2.2
     (obind (apO s0.2.2.1 [⟨v253.serial,d307.2.2.2.1⟩]) fun v313=>
     some (.inl (v260,v310,v313,wrapF .i64 (s0.2.2.2.1 + 1),true,true,true)))
     (cond s0.2.2.1.isNone
      (obind (apO s0.2.2.1 [⟨v253.serial,d307.2.2.2.1⟩]) fun v316=>
      some (.inl (v260,v310,v316,wrapF .i64 (s0.2.2.2.1 + 1),true,true,true)))
      (none)))
    (cond s0.2.1.isNone
     (obind (apO s0.2.1 [⟨v253.serial,d307.2.1⟩]) fun v319=>
     cond s0.2.2.2.2.2.2
      (obind (apO s0.2.2.1 [⟨v253.serial,d307.2.2.2.1⟩]) fun v322=>
      some (.inl (v260,v319,v322,wrapF .i64 (s0.2.2.2.1 + 1),true,true,true)))
      (cond s0.2.2.1.isNone
       (obind (apO s0.2.2.1 [⟨v253.serial,d307.2.2.2.1⟩]) fun v325=>
       some (.inl (v260,v319,v325,wrapF .i64 (s0.2.2.2.1 + 1),true,true,true)))
       (none)))
     (none)))
   (cond s0.1.isNone
    (obind (apO s0.1 [v257]) fun v328=>
    obind (itO (s8_1b a0 a2 v11 s0 v253 v328) (0,none,none,false,false)) fun d375=>
    cond s0.2.2.2.2.2.1
     (obind (apO s0.2.1 [⟨v253.serial,d375.2.1⟩]) fun v378=>
     cond s0.2.2.2.2.2.2
      (obind (apO s0.2.2.1 [⟨v253.serial,d375.2.2.2.1⟩]) fun v381=>
      some (.inl (v328,v378,v381,wrapF .i64 (s0.2.2.2.1 + 1),true,true,true)))
      (cond s0.2.2.1.isNone
       (obind (apO s0.2.2.1 [⟨v253.serial,d375.2.2.2.1⟩]) fun v384=>
       some (.inl (v328,v378,v384,wrapF .i64 (s0.2.2.2.1 + 1),true,true,true)))
       (none)))
     (cond s0.2.1.isNone
      (obind (apO s0.2.1 [⟨v253.serial,d375.2.1⟩]) fun v387=>
      cond s0.2.2.2.2.2.2
       (obind (apO s0.2.2.1 [⟨v253.serial,d375.2.2.2.1⟩]) fun v390=>
       some (.inl (v328,v387,v390,wrapF .i64 (s0.2.2.2.1 + 1),true,true,true)))
       (cond s0.2.2.1.isNone
        (obind (apO s0.2.2.1 [⟨v253.serial,d375.2.2.2.1⟩]) fun v393=>
        some (.inl (v328,v387,v393,wrapF .i64 (s0.2.2.2.1 + 1),true,true,true)))
        (none)))
      (none)))
    (none)))
  (some (.inr (s0.1,s0.2.2.2.2.1,s0.2.1,s0.2.2.2.2.2.1,s0.2.2.1,s0.2.2.2.2.2.2,s0.2.2.2.1)))
def St8_0 (a0:Option (List GUnit)) (a2:Int) (v11:Option (List Int)) (s0:(Option (List GUnit)) × (Option (List GUnit)) × (Option (List GUnit)) × Int × Bool × Bool × Bool):ASt:=⟨[(0,sl 2 vunit a0,false),(2,.int .u8 a2,false),(7,sl 1 vint v11,false),(8,sl 2 vunit s0.1,s0.2.2.2.2.1),(9,sl 2 vunit s0.2.1,s0.2.2.2.2.2.1),(10,sl 2 vunit s0.2.2.1,s0.2.2.2.2.2.2),(69,sl 2 vunit a0,false),(70,.int .i64 ((a0.getD []).length:Int),false),(71,.int .i64 s0.2.2.2.1,false)],[]⟩
def Ex8_0 (a0:Option (List GUnit)) (a2:Int) (v11:Option (List Int)) (d:((Option (List GUnit)) × Bool × (Option (List GUnit)) × Bool × (Option (List GUnit)) × Bool × Int)):AExit × ASt:=(.exit 0,⟨[(0,sl 2 vunit a0,false),(2,.int .u8 a2,false),(7,sl 1 vint v11,false),(8,sl 2 vunit d.1,d.2.1),(9,sl 2 vunit d.2.2.1,d.2.2.2.1),(10,sl 2 vunit d.2.2.2.2.1,d.2.2.2.2.2.1),(69,sl 2 vunit a0,false),(70,.int .i64 ((a0.getD []).length:Int),false),(71,.int .i64 d.2.2.2.2.2.2,false),(72,.bool false,false)],[]⟩)
theorem b8_0 (a0:Option (List GUnit)) (a2:Int) (v11:Option (List Int)) (s0:(Option (List GUnit)) × (Option (List GUnit)) × (Option (List GUnit)) × Int × Bool × Bool × Bool) (r) (h:s8_0 a0 a2 v11 s0=some r):stepO prT c8_0 (St8_0 a0 a2 v11) (Ex8_0 a0 a2 v11) s0 r:=by
 unfold s8_0 at h
 rcases cond_split h with ⟨h252,h⟩ | ⟨h252,h⟩
 ·obtain ⟨v253,h254,h⟩:=obind_some h
  obtain ⟨v255,h256,h⟩:=obind_some h
  obtain ⟨v257,h258,h⟩:=obind_some h
  rcases cond_split h with ⟨h259,h⟩ | ⟨h259,h⟩
  ·obtain ⟨v260,h261,h⟩:=obind_some h
   obtain ⟨d307,h308,h⟩:=obind_some h
   have wh308:X prT (.loop c8_1) ⟨[(0,sl 2 vunit a0,false),(2,.int .u8 a2,false),(7,sl 1 vint v11,false),(8,sl 2 vunit v260,true),(9,sl 2 vunit s0.2.1,s0.2.2.2.2.2.1),(10,sl 2 vunit s0.2.2.1,s0.2.2.2.2.2.2),(13,.ptr 1 0,false),(14,.ptr 2 0,false),(69,sl 2 vunit a0,false),(70,.int .i64 ((a0.getD []).length:Int),false),(71,.int .i64 s0.2.2.2.1,false),(93,sl 1 vint v253.values,false),(94,.int .i64 ((v253.values.getD []).length:Int),false),(95,.int .i64 0,false)],[.cells [(.str v253.serial,false),(sl 1 vint v253.values,false)],.cells [(.str v253.serial,false),(.list true 0 [],false)],.cells [(.str v253.serial,false),(.list true 0 [],false)]]⟩=some (.exit 2,⟨[(0,sl 2 vunit a0,false),(2,.int .u8 a2,false),(7,sl 1 vint v11,false),(8,sl 2 vunit v260,true),(9,sl 2 vunit s0.2.1,s0.2.2.2.2.2.1),(10,sl 2 vunit s0.2.2.1,s0.2.2.2.2.2.2),(13,.ptr 1 0,false),(14,.ptr 2 0,false),(69,sl 2 vunit a0,false),(70,.int .i64 ((a0.getD []).length:Int),false),(71,.int .i64 s0.2.2.2.1,false),(93,sl 1 vint v253.values,false),(94,.int .i64 ((v253.values.getD []).length:Int),false),(95,.int .i64 d307.1,false),(96,.bool false,false)],[.cells [(.str v253.serial,false),(sl 1 vint v253.values,false)],.cells [(.str v253.serial,false),(sl 1 vint d307.2.1,d307.2.2.1)],.cells [(.str v253.serial,false),(sl 1 vint d307.2.2.2.1,d307.2.2.2.2)]]⟩):=l8_1 a0 a2 v11 s0 v253 v260 h308
   rcases cond_split h with ⟨h309,h⟩ | ⟨h309,h⟩
   ·try simp only [h309] at wh308
    obtain ⟨v310,h311,h⟩:=obind_some h
    rcases cond_split h with ⟨h312,h⟩ | ⟨h312,h⟩
    ·try simp only [h312] at wh308
     obtain ⟨v313,h314,h⟩:=obind_some h
     cases h
     exact stepO_in (st':=⟨[(0,sl 2 vunit a0,false),(2,.int .u8 a2,false),(7,sl 1 vint v11,false),(8,sl 2 vunit v260,true),(9,sl 2 vunit v310,true),(10,sl 2 vunit v313,true),(69,sl 2 vunit a0,false),(70,.int .i64 ((a0.getD []).length:Int),false),(71,.int .i64 (wrapF .i64 (s0.2.2.2.1 + 1)),false)],[]++[.cells [(.str v253.serial,false),(sl 1 vint v253.values,false)],.cells [(.str v253.serial,false),(sl 1 vint d307.2.1,d307.2.2.1)],.cells [(.str v253.serial,false),(sl 1 vint d307.2.2.2.1,d307.2.2.2.2)]]⟩) (by simp only [go_sem,seval,c8_0,St8_0,h252,idxR_O h254,idxR_O h256,idxR_O h258,h259,app_vunit_O h261,wh308,h309,app_vunit_O h311,h312,app_vunit_O h314] <;> rfl) (gc_over rfl rfl (by first | simp only [go_sem,seval,St8_0] | rfl) (by first | simp only [go_sem,seval,St8_0] | rfl))
    ·try simp only [h312] at wh308
     rcases cond_split h with ⟨h315,h⟩ | ⟨h315,h⟩
     ·try simp only [h315] at wh308
      obtain ⟨v316,h317,h⟩:=obind_some h
      cases h
      exact stepO_in (st':=⟨[(0,sl 2 vunit a0,false),(2,.int .u8 a2,false),(7,sl 1 vint v11,false),(8,sl 2 vunit v260,true),(9,sl 2 vunit v310,true),(10,sl 2 vunit v316,true),(69,sl 2 vunit a0,false),(70,.int .i64 ((a0.getD []).length:Int),false),(71,.int .i64 (wrapF .i64 (s0.2.2.2.1 + 1)),false)],[]++[.cells [(.str v253.serial,false),(sl 1 vint v253.values,false)],.cells [(.str v253.serial,false),(sl 1 vint d307.2.1,d307.2.2.1)],.cells [(.str v253.serial,false),(sl 1 vint d307.2.2.2.1,d307.2.2.2.2)]]⟩) (by simp only [go_sem,seval,c8_0,St8_0,h252,idxR_O h254,idxR_O h256,idxR_O h258,h259,app_vunit_O h261,wh308,h309,app_vunit_O h311,h312,h315,app_vunit_N h317 h315] <;> rfl) (gc_over rfl rfl (by first | simp only [go_sem,seval,St8_0] | rfl) (by first | simp only [go_sem,seval,St8_0] | rfl))
     ·try simp only [h315] at wh308
      cases h
   ·try simp only [h309] at wh308
    rcases cond_split h with ⟨h318,h⟩ | ⟨h318,h⟩
    ·try simp only [h318] at wh308
     obtain ⟨v319,h320,h⟩:=obind_some h
     rcases cond_split h with ⟨h321,h⟩ | ⟨h321,h⟩
     ·try simp only [h321] at wh308
      obtain ⟨v322,h323,h⟩:=obind_some h
      cases h
      exact stepO_in (st':=⟨[(0,sl 2 vunit a0,false),(2,.int .u8 a2,false),(7,sl 1 vint v11,false),(8,sl 2 vunit v260,true),(9,sl 2 vunit v319,true),(10,sl 2 vunit v322,true),(69,sl 2 vunit a0,false),(70,.int .i64 ((a0.getD []).length:Int),false),(71,.int .i64 (wrapF .i64 (s0.2.2.2.1 + 1)),false)],[]++[.cells [(.str v253.serial,false),(sl 1 vint v253.values,false)],.cells [(.str v253.serial,false),(sl 1 vint d307.2.1,d307.2.2.1)],.cells [(.str v253.serial,false),(sl 1 vint d307.2.2.2.1,d307.2.2.2.2)]]⟩) (by simp only [go_sem,seval,c8_0,St8_0,h252,idxR_O h254,idxR_O h256,idxR_O h258,h259,app_vunit_O h261,wh308,h309,h318,app_vunit_N h320 h318,h321,app_vunit_O h323] <;> rfl) (gc_over rfl rfl (by first | simp only [go_sem,seval,St8_0] | rfl) (by first | simp only [go_sem,seval,St8_0] | rfl))
     ·try simp only [h321] at wh308
      rcases cond_split h with ⟨h324,h⟩ | ⟨h324,h⟩
      ·try simp only [h324] at wh308
       obtain ⟨v325,h326,h⟩:=obind_some h
       cases h
       exact stepO_in (st':=⟨[(0,sl 2 vunit a0,false),(2,.int .u8 a2,false),(7,sl 1 vint v11,false),(8,sl 2 vunit v260,true),(9,sl 2 vunit v319,true),(10,sl 2 vunit v325,true),(69,sl 2 vunit a0,false),(70,.int .i64 ((a0.getD []).length:Int),false),(71,.int .i64 (wrapF .i64 (s0.2.2.2.1 + 1)),false)],[]++[.cells [(.str v253.serial,false),(sl 1 vint v253.values,false)],.cells [(.str v253.serial,false),(sl 1 vint d307.2.1,d307.2.2.1)],.cells [(.str v253.serial,false),(sl 1 vint d307.2.2.2.1,d307.2.2.2.2)]]⟩) (by simp only [go_sem,seval,c8_0,St8_0,h252,idxR_O h254,idxR_O h256,idxR_O h258,h259,app_vunit_O h261,wh308,h309,h318,app_vunit_N h320 h318,h321,h324,app_vunit_N h326 h324] <;> rfl) (gc_over rfl rfl (by first | simp only [go_sem,seval,St8_0] | rfl) (by first | simp only [go_sem,seval,St8_0] | rfl))
      ·try simp only [h324] at wh308
       cases h
    ·try simp only [h318] at wh308
     cases h
  ·rcases cond_split h with ⟨h327,h⟩ | ⟨h327,h⟩
   ·obtain ⟨v328,h329,h⟩:=obind_some h
    obtain ⟨d375,h376,h⟩:=obind_some h
    have wh376:X prT (.loop c8_1) ⟨[(0,sl 2 vunit a0,false),(2,.int .u8 a2,false),(7,sl 1 vint v11,false),(8,sl 2 vunit v328,true),(9,sl 2 vunit s0.2.1,s0.2.2.2.2.2.1),(10,sl 2 vunit s0.2.2.1,s0.2.2.2.2.2.2),(13,.ptr 1 0,false),(14,.ptr 2 0,false),(69,sl 2 vunit a0,false),(70,.int .i64 ((a0.getD []).length:Int),false),(71,.int .i64 s0.2.2.2.1,false),(93,sl 1 vint v253.values,false),(94,.int .i64 ((v253.values.getD []).length:Int),false),(95,.int .i64 0,false)],[.cells [(.str v253.serial,false),(sl 1 vint v253.values,false)],.cells [(.str v253.serial,false),(.list true 0 [],false)],.cells [(.str v253.serial,false),(.list true 0 [],false)]]⟩=some (.exit 2,⟨[(0,sl 2 vunit a0,false),(2,.int .u8 a2,false),(7,sl 1 vint v11,false),(8,sl 2 vunit v328,true),(9,sl 2 vunit s0.2.1,s0.2.2.2.2.2.1),(10,sl 2 vunit s0.2.2.1,s0.2.2.2.2.2.2),(13,.ptr 1 0,false),(14,.ptr 2 0,false),(69,sl 2 vunit a0,false),(70,.int .i64 ((a0.getD []).length:Int),false),(71,.int .i64 s0.2.2.2.1,false),(93,sl 1 vint v253.values,false),(94,.int .i64 ((v253.values.getD []).length:Int),false),(95,.int .i64 d375.1,false),(96,.bool false,false)],[.cells [(.str v253.serial,false),(sl 1 vint v253.values,false)],.cells [(.str v253.serial,false),(sl 1 vint d375.2.1,d375.2.2.1)],.cells [(.str v253.serial,false),(sl 1 vint d375.2.2.2.1,d375.2.2.2.2)]]⟩):=l8_1b a0 a2 v11 s0 v253 v328 h376
    rcases cond_split h with ⟨h377,h⟩ | ⟨h377,h⟩
    ·try simp only [h377] at wh376
     obtain ⟨v378,h379,h⟩:=obind_some h
     rcases cond_split h with ⟨h380,h⟩ | ⟨h380,h⟩
     ·try simp only [h380] at wh376
      obtain ⟨v381,h382,h⟩:=obind_some h
      cases h
      exact stepO_in (st':=⟨[(0,sl 2 vunit a0,false),(2,.int .u8 a2,false),(7,sl 1 vint v11,false),(8,sl 2 vunit v328,true),(9,sl 2 vunit v378,true),(10,sl 2 vunit v381,true),(69,sl 2 vunit a0,false),(70,.int .i64 ((a0.getD []).length:Int),false),(71,.int .i64 (wrapF .i64 (s0.2.2.2.1 + 1)),false)],[]++[.cells [(.str v253.serial,false),(sl 1 vint v253.values,false)],.cells [(.str v253.serial,false),(sl 1 vint d375.2.1,d375.2.2.1)],.cells [(.str v253.serial,false),(sl 1 vint d375.2.2.2.1,d375.2.2.2.2)]]⟩) (by simp only [go_sem,seval,c8_0,St8_0,h252,idxR_O h254,idxR_O h256,idxR_O h258,h259,h327,app_vunit_N h329 h327,wh376,h377,app_vunit_O h379,h380,app_vunit_O h382] <;> rfl) (gc_over rfl rfl (by first | simp only [go_sem,seval,St8_0] | rfl) (by first | simp only [go_sem,seval,St8_0] | rfl))
     ·try simp only [h380] at wh376
      rcases cond_split h with ⟨h383,h⟩ | ⟨h383,h⟩
      ·try simp only [h383] at wh376
       obtain ⟨v384,h385,h⟩:=obind_some h
       cases h
       exact stepO_in (st':=⟨[(0,sl 2 vunit a0,false),(2,.int .u8 a2,false),(7,sl 1 vint v11,false),(8,sl 2 vunit v328,true),(9,sl 2 vunit v378,true),(10,sl 2 vunit v384,true),(69,sl 2 vunit a0,false),(70,.int .i64 ((a0.getD []).length:Int),false),(71,.int .i64 (wrapF .i64 (s0.2.2.2.1 + 1)),false)],[]++[.cells [(.str v253.serial,false),(sl 1 vint v253.values,false)],.cells [(.str v253.serial,false),(sl 1 vint d375.2.1,d375.2.2.1)],.cells [(.str v253.serial,false),(sl 1 vint d375.2.2.2.1,d375.2.2.2.2)]]⟩) (by simp only [go_sem,seval,c8_0,St8_0,h252,idxR_O h254,idxR_O h256,idxR_O h258,h259,h327,app_vunit_N h329 h327,wh376,h377,app_vunit_O h379,h380,h383,app_vunit_N h385 h383] <;> rfl) (gc_over rfl rfl (by first | simp only [go_sem,seval,St8_0] | rfl) (by first | simp only [go_sem,seval,St8_0] | rfl))
      ·try simp only [h383] at wh376
       cases h
    ·try simp only [h377] at wh376
     rcases cond_split h with ⟨h386,h⟩ | ⟨h386,h⟩
     ·try simp only [h386] at wh376
      obtain ⟨v387,h388,h⟩:=obind_some h
      rcases cond_split h with ⟨h389,h⟩ | ⟨h389,h⟩
      ·try simp only [h389] at wh376
       obtain ⟨v390,h391,h⟩:=obind_some h
       cases h
       exact stepO_in (st':=⟨[(0,sl 2 vunit a0,false),(2,.int .u8 a2,false),(7,sl 1 vint v11,false),(8,sl 2 vunit v328,true),(9,sl 2 vunit v387,true),(10,sl 2 vunit v390,true),(69,sl 2 vunit a0,false),(70,.int .i64 ((a0.getD []).length:Int),false),(71,.int .i64 (wrapF .i64 (s0.2.2.2.1 + 1)),false)],[]++[.cells [(.str v253.serial,false),(sl 1 vint v253.values,false)],.cells [(.str v253.serial,false),(sl 1 vint d375.2.1,d375.2.2.1)],.cells [(.str v253.serial,false),(sl 1 vint d375.2.2.2.1,d375.2.2.2.2)]]⟩) (by simp only [go_sem,seval,c8_0,St8_0,h252,idxR_O h254,idxR_O h256,idxR_O h258,h259,h327,app_vunit_N h329 h327,wh376,h377,h386,app_vunit_N h388 h386,h389,app_vunit_O h391] <;> rfl) (gc_over rfl rfl (by first | simp only [go_sem,seval,St8_0] | rfl) (by first | simp only [go_sem,seval,St8_0] | rfl))
      ·try simp only [h389] at wh376
       rcases cond_split h with ⟨h392,h⟩ | ⟨h392,h⟩
       ·try simp only [h392] at wh376
        obtain ⟨v393,h394,h⟩:=obind_some h
        cases h
        exact stepO_in (st':=⟨[(0,sl 2 vunit a0,false),(2,.int .u8 a2,false),(7,sl 1 vint v11,false),(8,sl 2 vunit v328,true),(9,sl 2 vunit v387,true),(10,sl 2 vunit v393,true),(69,sl 2 vunit a0,false),(70,.int .i64 ((a0.getD []).length:Int),false),(71,.int .i64 (wrapF .i64 (s0.2.2.2.1 + 1)),false)],[]++[.cells [(.str v253.serial,false),(sl 1 vint v253.values,false)],.cells [(.str v253.serial,false),(sl 1 vint d375.2.1,d375.2.2.1)],.cells [(.str v253.serial,false),(sl 1 vint d375.2.2.2.1,d375.2.2.2.2)]]⟩) (by simp only [go_sem,seval,c8_0,St8_0,h252,idxR_O h254,idxR_O h256,idxR_O h258,h259,h327,app_vunit_N h329 h327,wh376,h377,h386,app_vunit_N h388 h386,h389,h392,app_vunit_N h394 h392] <;> rfl) (gc_over rfl rfl (by first | simp only [go_sem,seval,St8_0] | rfl) (by first | simp only [go_sem,seval,St8_0] | rfl))
       ·try simp only [h392] at wh376
        cases h
     ·try simp only [h386] at wh376
      cases h
   ·cases h
 ·cases h
  exact stepO_out (by simp only [go_sem,seval,c8_0,St8_0,h252,Ex8_0] <;> rfl)
theorem l8_0 (a0:Option (List GUnit)) (a2:Int) (v11:Option (List Int)) {s0:(Option (List GUnit)) × (Option (List GUnit)) × (Option (List GUnit)) × Int × Bool × Bool × Bool} {d} (h:itO (s8_0 a0 a2 v11) s0=some d):X prT (.loop c8_0) (St8_0 a0 a2 v11 s0)=some (Ex8_0 a0 a2 v11 d):=X_itO (b8_0 a0 a2 v11) (fun d hh=>by cases hh) h
noncomputable def s8_2 (a0:Option (List GUnit)) (d395:(Option (List GUnit)) × Bool × (Option (List GUnit)) × Bool × (Option (List GUnit)) × Bool × Int) (v399:(Option (List GPair)) × Int × Int) (s2:Int):Option (Int ⊕ (Unit ⊕ Int)):=
 cond (decide (s2 < 3))
  (obind (idxO [d395.1,d395.2.2.1,d395.2.2.2.2.1] s2) fun v418=>
  obind (E18 v418) fun v420=>
  obind (f56 v420) fun v422=>
  cond (decide (v422.2.2=v399.2.2))
   (cond (decide (v422.2.1=v399.2.1))
    (some (.inl (wrapF .i64 (s2 + 1))))
    (some (.inr (.inl ()))))
   (some (.inr (.inl ()))))
  (some (.inr (.inr s2)))
def St8_2 (a0:Option (List GUnit)) (d395:(Option (List GUnit)) × Bool × (Option (List GUnit)) × Bool × (Option (List GUnit)) × Bool × Int) (v399:(Option (List GPair)) × Int × Int) (s2:Int):ASt:=⟨[(0,sl 2 vunit a0,false),(8,sl 2 vunit d395.1,d395.2.1),(18,.int .i64 v399.2.1,false),(19,.int .i64 v399.2.2,false),(135,.list false 1 [sl 2 vunit d395.1,sl 2 vunit d395.2.2.1,sl 2 vunit d395.2.2.2.2.1],true),(136,.int .i64 3,false),(137,.int .i64 s2,false)],[]⟩
def Ex8_2 (a0:Option (List GUnit)) (d395:(Option (List GUnit)) × Bool × (Option (List GUnit)) × Bool × (Option (List GUnit)) × Bool × Int) (v399:(Option (List GPair)) × Int × Int):Unit ⊕ Int→AExit × ASt
 | .inl d=>(.ret,⟨[(6,.bool false,false)],[]⟩)
 | .inr d=>(.exit 4,⟨[(0,sl 2 vunit a0,false),(8,sl 2 vunit d395.1,d395.2.1),(18,.int .i64 v399.2.1,false),(19,.int .i64 v399.2.2,false),(135,.list false 1 [sl 2 vunit d395.1,sl 2 vunit d395.2.2.1,sl 2 vunit d395.2.2.2.2.1],true),(136,.int .i64 3,false),(137,.int .i64 d,false),(138,.bool false,false)],[]⟩)
theorem b8_2 (a0:Option (List GUnit)) (d395:(Option (List GUnit)) × Bool × (Option (List GUnit)) × Bool × (Option (List GUnit)) × Bool × Int) (v399:(Option (List GPair)) × Int × Int) (s2:Int) (r) (h:s8_2 a0 d395 v399 s2=some r):stepO prT c8_2 (St8_2 a0 d395 v399) (Ex8_2 a0 d395 v399) s2 r:=by
 unfold s8_2 at h
 rcases cond_split h with ⟨h417,h⟩ | ⟨h417,h⟩
 ·obtain ⟨v418,h419,h⟩:=obind_some h
  obtain ⟨v420,h421,h⟩:=obind_some h
  have wh421:callIso prT (X prT) 18 [sl 2 vunit v418]=some (sl 2 vunit v420,(accO (v418.getD []))):=TWE18 h421
  obtain ⟨v422,h423,h⟩:=obind_some h
  have wh423:callIso prT (X prT) 56 [sl 2 vunit v420]=some (.tup [sl 2 vpair v422.1,.int .i64 v422.2.1,.int .i64 v422.2.2],false):=TW56 h423
  rcases cond_split h with ⟨h424,h⟩ | ⟨h424,h⟩
  ·rcases cond_split h with ⟨h425,h⟩ | ⟨h425,h⟩
   ·cases h
    exact stepO_in (st':=⟨[(0,sl 2 vunit a0,false),(8,sl 2 vunit d395.1,d395.2.1),(18,.int .i64 v399.2.1,false),(19,.int .i64 v399.2.2,false),(135,.list false 1 [sl 2 vunit d395.1,sl 2 vunit d395.2.2.1,sl 2 vunit d395.2.2.2.2.1],true),(136,.int .i64 3,false),(137,.int .i64 (wrapF .i64 (s2 + 1)),false)],[]⟩) (by simp only [go_sem,seval,c8_2,St8_2,h417,(show ∀ hp,idxR 1 hp (some (.list false 1 [sl 2 vunit d395.1,sl 2 vunit d395.2.2.1,sl 2 vunit d395.2.2.2.2.1])) (some (.int .i64 s2))=some ⟨.vptr (sl 2 vunit v418),false,none,hp⟩ from fun hp=>idxR_O (l:=some [d395.1,d395.2.2.1,d395.2.2.2.2.1]) h419),wh421,wh423,h424,h425] <;> rfl) (gc_same (Nat.le_refl _))
   ·cases h
    exact stepO_out (by simp only [go_sem,seval,c8_2,St8_2,h417,(show ∀ hp,idxR 1 hp (some (.list false 1 [sl 2 vunit d395.1,sl 2 vunit d395.2.2.1,sl 2 vunit d395.2.2.2.2.1])) (some (.int .i64 s2))=some ⟨.vptr (sl 2 vunit v418),false,none,hp⟩ from fun hp=>idxR_O (l:=some [d395.1,d395.2.2.1,d395.2.2.2.2.1]) h419),wh421,wh423,h424,h425,Ex8_2] <;> rfl)
  ·cases h
   exact stepO_out (by simp only [go_sem,seval,c8_2,St8_2,h417,(show ∀ hp,idxR 1 hp (some (.list false 1 [sl 2 vunit d395.1,sl 2 vunit d395.2.2.1,sl 2 vunit d395.2.2.2.2.1])) (some (.int .i64 s2))=some ⟨.vptr (sl 2 vunit v418),false,none,hp⟩ from fun hp=>idxR_O (l:=some [d395.1,d395.2.2.1,d395.2.2.2.2.1]) h419),wh421,wh423,h424,Ex8_2] <;> rfl)
 ·cases h
  exact stepO_out (by simp only [go_sem,seval,c8_2,St8_2,h417,Ex8_2] <;> rfl)
theorem l8_2 (a0:Option (List GUnit)) (d395:(Option (List GUnit)) × Bool × (Option (List GUnit)) × Bool × (Option (List GUnit)) × Bool × Int) (v399:(Option (List GPair)) × Int × Int) {s2:Int} {d} (h:itO (s8_2 a0 d395 v399) s2=some d):X prT (.loop c8_2) (St8_2 a0 d395 v399 s2)=some (Ex8_2 a0 d395 v399 d):=X_itO (b8_2 a0 d395 v399) (fun d=>by rcases d with d|d <;> (intro hh; cases hh)) h
noncomputable def s8_4 (a0:Option (List GUnit)) (d395:(Option (List GUnit)) × Bool × (Option (List GUnit)) × Bool × (Option (List GUnit)) × Bool × Int) (v436:Int × Int) (v440:Int × Int) (s3:Int × Int × Int) (v675:Int) (v681:Int) (s4:Int):Option (Int ⊕ (Unit ⊕ Int)):=
 cond (decide (s4 < ((a0.getD []).length:Int)))
  (obind (idxO (a0.getD []) s3.1) fun v756=>
  obind (E32 v756) fun v758=>
  obind (idxO (a0.getD []) s4) fun v760=>
  obind (E32 v760) fun v762=>
  obind (f59 v758 v762) fun v764=>
  obind (f59 v762 v758) fun v766=>
  obind (idxO (a0.getD []) v436.1) fun v768=>
  obind (E32 v768) fun v770=>
  obind (f59 v758 v770) fun v772=>
  obind (f59 v770 v762) fun v774=>
  cond (decide ((wrapF .i64 ((wrapF .i64 ((wrapF .i64 (v764.2 + v766.2)) + v772.2)) + v774.2))=0))
   (cond (decide (v764.1=v766.1))
    (cond (decide (v764.1 < 0))
     (some (.inr (.inl ())))
     (cond (decide (s3.1=s4))
      (cond (decide (v764.1=0))
       (cond (decide (v772.1 < 0))
        (some (.inr (.inl ())))
        (cond (decide (v774.1 < 0))
         (some (.inr (.inl ())))
         (cond (decide (1000000 < v772.1))
          (some (.inr (.inl ())))
          (cond (decide (1000000 < v774.1))
           (some (.inr (.inl ())))
           (cond (decide ((wrapF .i64 (v772.1 + v774.1)) < v764.1))
            (some (.inr (.inl ())))
            (some (.inl (wrapF .i64 (s4 + 1)))))))))
       (some (.inr (.inl ()))))
      (cond (decide (v772.1 < 0))
       (some (.inr (.inl ())))
       (cond (decide (v774.1 < 0))
        (some (.inr (.inl ())))
        (cond (decide (1000000 < v772.1))
         (some (.inr (.inl ())))
         (cond (decide (1000000 < v774.1))
          (some (.inr (.inl ())))
          (cond (decide ((wrapF .i64 (v772.1 + v774.1)) < v764.1))
           (some (.inr (.inl ())))
           (some (.inl (wrapF .i64 (s4 + 1)))))))))))
    (some (.inr (.inl ()))))
   (some (.inr (.inl ()))))
  (some (.inr (.inr s4)))
def St8_4 (a0:Option (List GUnit)) (d395:(Option (List GUnit)) × Bool × (Option (List GUnit)) × Bool × (Option (List GUnit)) × Bool × Int) (v436:Int × Int) (v440:Int × Int) (s3:Int × Int × Int) (v675:Int) (v681:Int) (s4:Int):ASt:=⟨[(0,sl 2 vunit a0,false),(8,sl 2 vunit d395.1,d395.2.1),(27,.int .i64 v436.1,false),(29,.int .i64 v440.1,false),(31,.ptr 0 0,false),(32,.int .i64 s3.1,false),(206,.int .i64 ((a0.getD []).length:Int),false),(207,.int .i64 s3.1,false),(237,.int .i64 ((a0.getD []).length:Int),false),(238,.int .i64 s4,false)],[.cells [(.int .i64 (max s3.2.1 v675),false),(.int .i64 (max s3.2.2 v681),false)]]⟩
def Ex8_4 (a0:Option (List GUnit)) (d395:(Option (List GUnit)) × Bool × (Option (List GUnit)) × Bool × (Option (List GUnit)) × Bool × Int) (v436:Int × Int) (v440:Int × Int) (s3:Int × Int × Int) (v675:Int) (v681:Int):Unit ⊕ Int→AExit × ASt
 | .inl d=>(.ret,⟨[(6,.bool false,false)],[.cells [(.int .i64 (max s3.2.1 v675),false),(.int .i64 (max s3.2.2 v681),false)]]⟩)
 | .inr d=>(.exit 8,⟨[(0,sl 2 vunit a0,false),(8,sl 2 vunit d395.1,d395.2.1),(27,.int .i64 v436.1,false),(29,.int .i64 v440.1,false),(31,.ptr 0 0,false),(32,.int .i64 s3.1,false),(206,.int .i64 ((a0.getD []).length:Int),false),(207,.int .i64 s3.1,false),(237,.int .i64 ((a0.getD []).length:Int),false),(238,.int .i64 d,false),(239,.bool false,false)],[.cells [(.int .i64 (max s3.2.1 v675),false),(.int .i64 (max s3.2.2 v681),false)]]⟩)
theorem b8_4 (a0:Option (List GUnit)) (d395:(Option (List GUnit)) × Bool × (Option (List GUnit)) × Bool × (Option (List GUnit)) × Bool × Int) (v436:Int × Int) (v440:Int × Int) (s3:Int × Int × Int) (v675:Int) (v681:Int) (s4:Int) (r) (h:s8_4 a0 d395 v436 v440 s3 v675 v681 s4=some r):stepO prT c8_4 (St8_4 a0 d395 v436 v440 s3 v675 v681) (Ex8_4 a0 d395 v436 v440 s3 v675 v681) s4 r:=by
 unfold s8_4 at h
 rcases cond_split h with ⟨h755,h⟩ | ⟨h755,h⟩
 ·obtain ⟨v756,h757,h⟩:=obind_some h
  obtain ⟨v758,h759,h⟩:=obind_some h
  have wh759:callIso prT (X prT) 32 [.agg [.str v756.serial,sl 1 vint v756.values]]=some (.agg [.str v758.serial,sl 1 vint v758.values],false):=TWE32 h759
  obtain ⟨v760,h761,h⟩:=obind_some h
  obtain ⟨v762,h763,h⟩:=obind_some h
  have wh763:callIso prT (X prT) 32 [.agg [.str v760.serial,sl 1 vint v760.values]]=some (.agg [.str v762.serial,sl 1 vint v762.values],false):=TWE32 h763
  obtain ⟨v764,h765,h⟩:=obind_some h
  have wh765:callIso prT (X prT) 59 [.agg [.str v758.serial,sl 1 vint v758.values],.agg [.str v762.serial,sl 1 vint v762.values]]=some (.tup [.int .i64 v764.1,.int .i64 v764.2],false):=TW59 h765
  obtain ⟨v766,h767,h⟩:=obind_some h
  have wh767:callIso prT (X prT) 59 [.agg [.str v762.serial,sl 1 vint v762.values],.agg [.str v758.serial,sl 1 vint v758.values]]=some (.tup [.int .i64 v766.1,.int .i64 v766.2],false):=TW59 h767
  obtain ⟨v768,h769,h⟩:=obind_some h
  obtain ⟨v770,h771,h⟩:=obind_some h
  have wh771:callIso prT (X prT) 32 [.agg [.str v768.serial,sl 1 vint v768.values]]=some (.agg [.str v770.serial,sl 1 vint v770.values],false):=TWE32 h771
  obtain ⟨v772,h773,h⟩:=obind_some h
  have wh773:callIso prT (X prT) 59 [.agg [.str v758.serial,sl 1 vint v758.values],.agg [.str v770.serial,sl 1 vint v770.values]]=some (.tup [.int .i64 v772.1,.int .i64 v772.2],false):=TW59 h773
  obtain ⟨v774,h775,h⟩:=obind_some h
  have wh775:callIso prT (X prT) 59 [.agg [.str v770.serial,sl 1 vint v770.values],.agg [.str v762.serial,sl 1 vint v762.values]]=some (.tup [.int .i64 v774.1,.int .i64 v774.2],false):=TW59 h775
  rcases cond_split h with ⟨h776,h⟩ | ⟨h776,h⟩
  ·rcases cond_split h with ⟨h777,h⟩ | ⟨h777,h⟩
   ·rcases cond_split h with ⟨h778,h⟩ | ⟨h778,h⟩
    ·cases h
     exact stepO_out (by simp only [go_sem,seval,c8_4,St8_4,h755,idxR_O h757,wh759,idxR_O h761,wh763,wh765,wh767,idxR_O h769,wh771,wh773,wh775,h776,h777,h778,Ex8_4] <;> rfl)
    ·rcases cond_split h with ⟨h779,h⟩ | ⟨h779,h⟩
     ·rcases cond_split h with ⟨h780,h⟩ | ⟨h780,h⟩
      ·rcases cond_split h with ⟨h781,h⟩ | ⟨h781,h⟩
       ·cases h
        exact stepO_out (by simp only [go_sem,seval,c8_4,St8_4,h755,idxR_O h757,wh759,idxR_O h761,wh763,wh765,wh767,idxR_O h769,wh771,wh773,wh775,h776,h777,h778,h779,h780,h781,Ex8_4] <;> rfl)
       ·rcases cond_split h with ⟨h782,h⟩ | ⟨h782,h⟩
        ·cases h
         exact stepO_out (by simp only [go_sem,seval,c8_4,St8_4,h755,idxR_O h757,wh759,idxR_O h761,wh763,wh765,wh767,idxR_O h769,wh771,wh773,wh775,h776,h777,h778,h779,h780,h781,h782,Ex8_4] <;> rfl)
        ·rcases cond_split h with ⟨h783,h⟩ | ⟨h783,h⟩
         ·cases h
          exact stepO_out (by simp only [go_sem,seval,c8_4,St8_4,h755,idxR_O h757,wh759,idxR_O h761,wh763,wh765,wh767,idxR_O h769,wh771,wh773,wh775,h776,h777,h778,h779,h780,h781,h782,h783,Ex8_4] <;> rfl)
         ·rcases cond_split h with ⟨h784,h⟩ | ⟨h784,h⟩
          ·cases h
           exact stepO_out (by simp only [go_sem,seval,c8_4,St8_4,h755,idxR_O h757,wh759,idxR_O h761,wh763,wh765,wh767,idxR_O h769,wh771,wh773,wh775,h776,h777,h778,h779,h780,h781,h782,h783,h784,Ex8_4] <;> rfl)
          ·rcases cond_split h with ⟨h785,h⟩ | ⟨h785,h⟩
           ·cases h
            exact stepO_out (by simp only [go_sem,seval,c8_4,St8_4,h755,idxR_O h757,wh759,idxR_O h761,wh763,wh765,wh767,idxR_O h769,wh771,wh773,wh775,h776,h777,h778,h779,h780,h781,h782,h783,h784,h785,Ex8_4] <;> rfl)
           ·cases h
            exact stepO_in (st':=⟨[(0,sl 2 vunit a0,false),(8,sl 2 vunit d395.1,d395.2.1),(27,.int .i64 v436.1,false),(29,.int .i64 v440.1,false),(31,.ptr 0 0,false),(32,.int .i64 s3.1,false),(206,.int .i64 ((a0.getD []).length:Int),false),(207,.int .i64 s3.1,false),(237,.int .i64 ((a0.getD []).length:Int),false),(238,.int .i64 (wrapF .i64 (s4 + 1)),false)],[.cells [(.int .i64 (max s3.2.1 v675),false),(.int .i64 (max s3.2.2 v681),false)]]⟩) (by simp only [go_sem,seval,c8_4,St8_4,h755,idxR_O h757,wh759,idxR_O h761,wh763,wh765,wh767,idxR_O h769,wh771,wh773,wh775,h776,h777,h778,h779,h780,h781,h782,h783,h784,h785] <;> rfl) (gc_same (Nat.le_refl _))
      ·cases h
       exact stepO_out (by simp only [go_sem,seval,c8_4,St8_4,h755,idxR_O h757,wh759,idxR_O h761,wh763,wh765,wh767,idxR_O h769,wh771,wh773,wh775,h776,h777,h778,h779,h780,Ex8_4] <;> rfl)
     ·rcases cond_split h with ⟨h786,h⟩ | ⟨h786,h⟩
      ·cases h
       exact stepO_out (by simp only [go_sem,seval,c8_4,St8_4,h755,idxR_O h757,wh759,idxR_O h761,wh763,wh765,wh767,idxR_O h769,wh771,wh773,wh775,h776,h777,h778,h779,h786,Ex8_4] <;> rfl)
      ·rcases cond_split h with ⟨h787,h⟩ | ⟨h787,h⟩
       ·cases h
        exact stepO_out (by simp only [go_sem,seval,c8_4,St8_4,h755,idxR_O h757,wh759,idxR_O h761,wh763,wh765,wh767,idxR_O h769,wh771,wh773,wh775,h776,h777,h778,h779,h786,h787,Ex8_4] <;> rfl)
       ·rcases cond_split h with ⟨h788,h⟩ | ⟨h788,h⟩
        ·cases h
         exact stepO_out (by simp only [go_sem,seval,c8_4,St8_4,h755,idxR_O h757,wh759,idxR_O h761,wh763,wh765,wh767,idxR_O h769,wh771,wh773,wh775,h776,h777,h778,h779,h786,h787,h788,Ex8_4] <;> rfl)
        ·rcases cond_split h with ⟨h789,h⟩ | ⟨h789,h⟩
         ·cases h
          exact stepO_out (by simp only [go_sem,seval,c8_4,St8_4,h755,idxR_O h757,wh759,idxR_O h761,wh763,wh765,wh767,idxR_O h769,wh771,wh773,wh775,h776,h777,h778,h779,h786,h787,h788,h789,Ex8_4] <;> rfl)
         ·rcases cond_split h with ⟨h790,h⟩ | ⟨h790,h⟩
          ·cases h
           exact stepO_out (by simp only [go_sem,seval,c8_4,St8_4,h755,idxR_O h757,wh759,idxR_O h761,wh763,wh765,wh767,idxR_O h769,wh771,wh773,wh775,h776,h777,h778,h779,h786,h787,h788,h789,h790,Ex8_4] <;> rfl)
          ·cases h
           exact stepO_in (st':=⟨[(0,sl 2 vunit a0,false),(8,sl 2 vunit d395.1,d395.2.1),(27,.int .i64 v436.1,false),(29,.int .i64 v440.1,false),(31,.ptr 0 0,false),(32,.int .i64 s3.1,false),(206,.int .i64 ((a0.getD []).length:Int),false),(207,.int .i64 s3.1,false),(237,.int .i64 ((a0.getD []).length:Int),false),(238,.int .i64 (wrapF .i64 (s4 + 1)),false)],[.cells [(.int .i64 (max s3.2.1 v675),false),(.int .i64 (max s3.2.2 v681),false)]]⟩) (by simp only [go_sem,seval,c8_4,St8_4,h755,idxR_O h757,wh759,idxR_O h761,wh763,wh765,wh767,idxR_O h769,wh771,wh773,wh775,h776,h777,h778,h779,h786,h787,h788,h789,h790] <;> rfl) (gc_same (Nat.le_refl _))
   ·cases h
    exact stepO_out (by simp only [go_sem,seval,c8_4,St8_4,h755,idxR_O h757,wh759,idxR_O h761,wh763,wh765,wh767,idxR_O h769,wh771,wh773,wh775,h776,h777,Ex8_4] <;> rfl)
  ·cases h
   exact stepO_out (by simp only [go_sem,seval,c8_4,St8_4,h755,idxR_O h757,wh759,idxR_O h761,wh763,wh765,wh767,idxR_O h769,wh771,wh773,wh775,h776,Ex8_4] <;> rfl)
 ·cases h
  exact stepO_out (by simp only [go_sem,seval,c8_4,St8_4,h755,Ex8_4] <;> rfl)
theorem l8_4 (a0:Option (List GUnit)) (d395:(Option (List GUnit)) × Bool × (Option (List GUnit)) × Bool × (Option (List GUnit)) × Bool × Int) (v436:Int × Int) (v440:Int × Int) (s3:Int × Int × Int) (v675:Int) (v681:Int) {s4:Int} {d} (h:itO (s8_4 a0 d395 v436 v440 s3 v675 v681) s4=some d):X prT (.loop c8_4) (St8_4 a0 d395 v436 v440 s3 v675 v681 s4)=some (Ex8_4 a0 d395 v436 v440 s3 v675 v681 d):=X_itO (b8_4 a0 d395 v436 v440 s3 v675 v681) (fun d=>by rcases d with d|d <;> (intro hh; cases hh)) h
noncomputable def s8_3 (a0:Option (List GUnit)) (d395:(Option (List GUnit)) × Bool × (Option (List GUnit)) × Bool × (Option (List GUnit)) × Bool × Int) (v436:Int × Int) (v440:Int × Int) (s3:Int × Int × Int):Option ((Int × Int × Int) ⊕ ((Int × Int) ⊕ (Int × Int × Int))):=
 cond (decide (s3.1 < ((a0.getD []).length:Int)))
  (obind (idxO (a0.getD []) v436.1) fun v671=>
  obind (idxO (a0.getD []) s3.1) fun v673=>
  obind (f58 v671 v673) fun v675=>
  obind (idxO (d395.1.getD []) v440.1) fun v677=>
  obind (idxO (d395.1.getD []) s3.1) fun v679=>
  obind (f58 v677 v679) fun v681=>
  obind (itO (s8_4 a0 d395 v436 v440 s3 v675 v681) 0) fun d791=>match d791 with
   | .inl d793=>
    some (.inr (.inl (max s3.2.1 v675,max s3.2.2 v681)))
   | .inr d794=>
    some (.inl (wrapF .i64 (s3.1 + 1),max s3.2.1 v675,max s3.2.2 v681)))
  (some (.inr (.inr (s3.1,s3.2.1,s3.2.2))))
def St8_3 (a0:Option (List GUnit)) (d395:(Option (List GUnit)) × Bool × (Option (List GUnit)) × Bool × (Option (List GUnit)) × Bool × Int) (v436:Int × Int) (v440:Int × Int) (s3:Int × Int × Int):ASt:=⟨[(0,sl 2 vunit a0,false),(8,sl 2 vunit d395.1,d395.2.1),(27,.int .i64 v436.1,false),(29,.int .i64 v440.1,false),(31,.ptr 0 0,false),(206,.int .i64 ((a0.getD []).length:Int),false),(207,.int .i64 s3.1,false)],[.cells [(.int .i64 s3.2.1,false),(.int .i64 s3.2.2,false)]]⟩
def Ex8_3 (a0:Option (List GUnit)) (d395:(Option (List GUnit)) × Bool × (Option (List GUnit)) × Bool × (Option (List GUnit)) × Bool × Int) (v436:Int × Int) (v440:Int × Int):(Int × Int) ⊕ (Int × Int × Int)→AExit × ASt
 | .inl d=>(.ret,⟨[(6,.bool false,false)],[.cells [(.int .i64 d.1,false),(.int .i64 d.2,false)]]⟩)
 | .inr d=>(.exit 6,⟨[(0,sl 2 vunit a0,false),(8,sl 2 vunit d395.1,d395.2.1),(27,.int .i64 v436.1,false),(29,.int .i64 v440.1,false),(31,.ptr 0 0,false),(206,.int .i64 ((a0.getD []).length:Int),false),(207,.int .i64 d.1,false),(208,.bool false,false)],[.cells [(.int .i64 d.2.1,false),(.int .i64 d.2.2,false)]]⟩)
theorem b8_3 (a0:Option (List GUnit)) (d395:(Option (List GUnit)) × Bool × (Option (List GUnit)) × Bool × (Option (List GUnit)) × Bool × Int) (v436:Int × Int) (v440:Int × Int) (s3:Int × Int × Int) (r) (h:s8_3 a0 d395 v436 v440 s3=some r):stepO prT c8_3 (St8_3 a0 d395 v436 v440) (Ex8_3 a0 d395 v436 v440) s3 r:=by
 unfold s8_3 at h
 rcases cond_split h with ⟨h670,h⟩ | ⟨h670,h⟩
 ·obtain ⟨v671,h672,h⟩:=obind_some h
  obtain ⟨v673,h674,h⟩:=obind_some h
  obtain ⟨v675,h676,h⟩:=obind_some h
  have wh676:callIso prT (X prT) 58 [.agg [.str v671.serial,sl 1 vint v671.values],.agg [.str v673.serial,sl 1 vint v673.values]]=some (.int .i64 v675,false):=TW58 h676
  obtain ⟨v677,h678,h⟩:=obind_some h
  obtain ⟨v679,h680,h⟩:=obind_some h
  obtain ⟨v681,h682,h⟩:=obind_some h
  have wh682:callIso prT (X prT) 58 [.agg [.str v677.serial,sl 1 vint v677.values],.agg [.str v679.serial,sl 1 vint v679.values]]=some (.int .i64 v681,false):=TW58 h682
  obtain ⟨d791,h792,h⟩:=obind_some h
  rcases d791 with d793 | d794
  ·have wh792:X prT (.loop c8_4) ⟨[(0,sl 2 vunit a0,false),(8,sl 2 vunit d395.1,d395.2.1),(27,.int .i64 v436.1,false),(29,.int .i64 v440.1,false),(31,.ptr 0 0,false),(32,.int .i64 s3.1,false),(206,.int .i64 ((a0.getD []).length:Int),false),(207,.int .i64 s3.1,false),(237,.int .i64 ((a0.getD []).length:Int),false),(238,.int .i64 0,false)],[.cells [(.int .i64 (max s3.2.1 v675),false),(.int .i64 (max s3.2.2 v681),false)]]⟩=some (.ret,⟨[(6,.bool false,false)],[.cells [(.int .i64 (max s3.2.1 v675),false),(.int .i64 (max s3.2.2 v681),false)]]⟩):=l8_4 a0 d395 v436 v440 s3 v675 v681 h792
   cases h
   exact stepO_out (by simp only [go_sem,seval,c8_3,St8_3,h670,idxR_O h672,idxR_O h674,wh676,idxR_O h678,idxR_O h680,wh682,wh792,Ex8_3] <;> rfl)
  ·have wh792:X prT (.loop c8_4) ⟨[(0,sl 2 vunit a0,false),(8,sl 2 vunit d395.1,d395.2.1),(27,.int .i64 v436.1,false),(29,.int .i64 v440.1,false),(31,.ptr 0 0,false),(32,.int .i64 s3.1,false),(206,.int .i64 ((a0.getD []).length:Int),false),(207,.int .i64 s3.1,false),(237,.int .i64 ((a0.getD []).length:Int),false),(238,.int .i64 0,false)],[.cells [(.int .i64 (max s3.2.1 v675),false),(.int .i64 (max s3.2.2 v681),false)]]⟩=some (.exit 8,⟨[(0,sl 2 vunit a0,false),(8,sl 2 vunit d395.1,d395.2.1),(27,.int .i64 v436.1,false),(29,.int .i64 v440.1,false),(31,.ptr 0 0,false),(32,.int .i64 s3.1,false),(206,.int .i64 ((a0.getD []).length:Int),false),(207,.int .i64 s3.1,false),(237,.int .i64 ((a0.getD []).length:Int),false),(238,.int .i64 d794,false),(239,.bool false,false)],[.cells [(.int .i64 (max s3.2.1 v675),false),(.int .i64 (max s3.2.2 v681),false)]]⟩):=l8_4 a0 d395 v436 v440 s3 v675 v681 h792
   cases h
   exact stepO_in (st':=⟨[(0,sl 2 vunit a0,false),(8,sl 2 vunit d395.1,d395.2.1),(27,.int .i64 v436.1,false),(29,.int .i64 v440.1,false),(31,.ptr 0 0,false),(206,.int .i64 ((a0.getD []).length:Int),false),(207,.int .i64 (wrapF .i64 (s3.1 + 1)),false)],[.cells [(.int .i64 (max s3.2.1 v675),false),(.int .i64 (max s3.2.2 v681),false)]]⟩) (by simp only [go_sem,seval,c8_3,St8_3,h670,idxR_O h672,idxR_O h674,wh676,idxR_O h678,idxR_O h680,wh682,wh792] <;> rfl) (gc_same (Nat.le_refl _))
 ·cases h
  exact stepO_out (by simp only [go_sem,seval,c8_3,St8_3,h670,Ex8_3] <;> rfl)
theorem l8_3 (a0:Option (List GUnit)) (d395:(Option (List GUnit)) × Bool × (Option (List GUnit)) × Bool × (Option (List GUnit)) × Bool × Int) (v436:Int × Int) (v440:Int × Int) {s3:Int × Int × Int} {d} (h:itO (s8_3 a0 d395 v436 v440) s3=some d):X prT (.loop c8_3) (St8_3 a0 d395 v436 v440 s3)=some (Ex8_3 a0 d395 v436 v440 d):=X_itO (b8_3 a0 d395 v436 v440) (fun d=>by rcases d with d|d <;> (intro hh; cases hh)) h
noncomputable def s8_6 (a0:Option (List GUnit)) (d798:Int × Int × Int) (s5:Int) (s6:Int × Int):Option ((Int × Int) ⊕ ((Int × Int))):=
 cond (decide (s6.2 < ((a0.getD []).length:Int)))
  (obind (idxO (a0.getD []) s5) fun v863=>
  obind (idxO (a0.getD []) s6.2) fun v865=>
  obind (f58 v863 v865) fun v867=>
  some (.inl (max s6.1 v867,wrapF .i64 (s6.2 + 1))))
  (some (.inr (s6.1,s6.2)))
def St8_6 (a0:Option (List GUnit)) (d798:Int × Int × Int) (s5:Int) (s6:Int × Int):ASt:=⟨[(0,sl 2 vunit a0,false),(31,.ptr 0 0,false),(42,.int .i64 s5,false),(43,.int .i64 s6.1,false),(349,.int .i64 ((a0.getD []).length:Int),false),(350,.int .i64 s5,false),(354,.int .i64 ((a0.getD []).length:Int),false),(355,.int .i64 s6.2,false)],[.cells [(.int .i64 d798.2.1,false),(.int .i64 d798.2.2,false)]]⟩
def Ex8_6 (a0:Option (List GUnit)) (d798:Int × Int × Int) (s5:Int) (d:(Int × Int)):AExit × ASt:=(.exit 12,⟨[(0,sl 2 vunit a0,false),(31,.ptr 0 0,false),(42,.int .i64 s5,false),(43,.int .i64 d.1,false),(349,.int .i64 ((a0.getD []).length:Int),false),(350,.int .i64 s5,false),(354,.int .i64 ((a0.getD []).length:Int),false),(355,.int .i64 d.2,false),(356,.bool false,false)],[.cells [(.int .i64 d798.2.1,false),(.int .i64 d798.2.2,false)]]⟩)
theorem b8_6 (a0:Option (List GUnit)) (d798:Int × Int × Int) (s5:Int) (s6:Int × Int) (r) (h:s8_6 a0 d798 s5 s6=some r):stepO prT c8_6 (St8_6 a0 d798 s5) (Ex8_6 a0 d798 s5) s6 r:=by
 unfold s8_6 at h
 rcases cond_split h with ⟨h862,h⟩ | ⟨h862,h⟩
 ·obtain ⟨v863,h864,h⟩:=obind_some h
  obtain ⟨v865,h866,h⟩:=obind_some h
  obtain ⟨v867,h868,h⟩:=obind_some h
  have wh868:callIso prT (X prT) 58 [.agg [.str v863.serial,sl 1 vint v863.values],.agg [.str v865.serial,sl 1 vint v865.values]]=some (.int .i64 v867,false):=TW58 h868
  cases h
  exact stepO_in (st':=⟨[(0,sl 2 vunit a0,false),(31,.ptr 0 0,false),(42,.int .i64 s5,false),(43,.int .i64 (max s6.1 v867),false),(349,.int .i64 ((a0.getD []).length:Int),false),(350,.int .i64 s5,false),(354,.int .i64 ((a0.getD []).length:Int),false),(355,.int .i64 (wrapF .i64 (s6.2 + 1)),false)],[.cells [(.int .i64 d798.2.1,false),(.int .i64 d798.2.2,false)]]⟩) (by simp only [go_sem,seval,c8_6,St8_6,h862,idxR_O h864,idxR_O h866,wh868] <;> rfl) (gc_same (Nat.le_refl _))
 ·cases h
  exact stepO_out (by simp only [go_sem,seval,c8_6,St8_6,h862,Ex8_6] <;> rfl)
theorem l8_6 (a0:Option (List GUnit)) (d798:Int × Int × Int) (s5:Int) {s6:Int × Int} {d} (h:itO (s8_6 a0 d798 s5) s6=some d):X prT (.loop c8_6) (St8_6 a0 d798 s5 s6)=some (Ex8_6 a0 d798 s5 d):=X_itO (b8_6 a0 d798 s5) (fun d hh=>by cases hh) h
noncomputable def s8_5 (a0:Option (List GUnit)) (d798:Int × Int × Int) (s5:Int):Option (Int ⊕ (Unit ⊕ Int)):=
 cond (decide (s5 < ((a0.getD []).length:Int)))
  (obind (itO (s8_6 a0 d798 s5) (0,0)) fun d869=>
  cond (decide (d869.1 < d798.2.1))
   (some (.inr (.inl ())))
   (some (.inl (wrapF .i64 (s5 + 1)))))
  (some (.inr (.inr s5)))
def St8_5 (a0:Option (List GUnit)) (d798:Int × Int × Int) (s5:Int):ASt:=⟨[(0,sl 2 vunit a0,false),(31,.ptr 0 0,false),(349,.int .i64 ((a0.getD []).length:Int),false),(350,.int .i64 s5,false)],[.cells [(.int .i64 d798.2.1,false),(.int .i64 d798.2.2,false)]]⟩
def Ex8_5 (a0:Option (List GUnit)) (d798:Int × Int × Int):Unit ⊕ Int→AExit × ASt
 | .inl d=>(.ret,⟨[(6,.bool false,false)],[.cells [(.int .i64 d798.2.1,false),(.int .i64 d798.2.2,false)]]⟩)
 | .inr d=>(.exit 10,⟨[(0,sl 2 vunit a0,false),(31,.ptr 0 0,false),(349,.int .i64 ((a0.getD []).length:Int),false),(350,.int .i64 d,false),(351,.bool false,false)],[.cells [(.int .i64 d798.2.1,false),(.int .i64 d798.2.2,false)]]⟩)
theorem b8_5 (a0:Option (List GUnit)) (d798:Int × Int × Int) (s5:Int) (r) (h:s8_5 a0 d798 s5=some r):stepO prT c8_5 (St8_5 a0 d798) (Ex8_5 a0 d798) s5 r:=by
 unfold s8_5 at h
 rcases cond_split h with ⟨h847,h⟩ | ⟨h847,h⟩
 ·obtain ⟨d869,h870,h⟩:=obind_some h
  have wh870:X prT (.loop c8_6) ⟨[(0,sl 2 vunit a0,false),(31,.ptr 0 0,false),(42,.int .i64 s5,false),(43,.int .i64 0,false),(349,.int .i64 ((a0.getD []).length:Int),false),(350,.int .i64 s5,false),(354,.int .i64 ((a0.getD []).length:Int),false),(355,.int .i64 0,false)],[.cells [(.int .i64 d798.2.1,false),(.int .i64 d798.2.2,false)]]⟩=some (.exit 12,⟨[(0,sl 2 vunit a0,false),(31,.ptr 0 0,false),(42,.int .i64 s5,false),(43,.int .i64 d869.1,false),(349,.int .i64 ((a0.getD []).length:Int),false),(350,.int .i64 s5,false),(354,.int .i64 ((a0.getD []).length:Int),false),(355,.int .i64 d869.2,false),(356,.bool false,false)],[.cells [(.int .i64 d798.2.1,false),(.int .i64 d798.2.2,false)]]⟩):=l8_6 a0 d798 s5 h870
  rcases cond_split h with ⟨h871,h⟩ | ⟨h871,h⟩
  ·cases h
   exact stepO_out (by simp only [go_sem,seval,c8_5,St8_5,h847,wh870,h871,Ex8_5] <;> rfl)
  ·cases h
   exact stepO_in (st':=⟨[(0,sl 2 vunit a0,false),(31,.ptr 0 0,false),(349,.int .i64 ((a0.getD []).length:Int),false),(350,.int .i64 (wrapF .i64 (s5 + 1)),false)],[.cells [(.int .i64 d798.2.1,false),(.int .i64 d798.2.2,false)]]⟩) (by simp only [go_sem,seval,c8_5,St8_5,h847,wh870,h871] <;> rfl) (gc_same (Nat.le_refl _))
 ·cases h
  exact stepO_out (by simp only [go_sem,seval,c8_5,St8_5,h847,Ex8_5] <;> rfl)
theorem l8_5 (a0:Option (List GUnit)) (d798:Int × Int × Int) {s5:Int} {d} (h:itO (s8_5 a0 d798) s5=some d):X prT (.loop c8_5) (St8_5 a0 d798 s5)=some (Ex8_5 a0 d798 d):=X_itO (b8_5 a0 d798) (fun d=>by rcases d with d|d <;> (intro hh; cases hh)) h
noncomputable def f8 (a0:Option (List GUnit)) (a1:Int) (a2:Int):Option Bool:=
 obind (E14) fun v1=>
 cond v1
  (cond (decide (6 < ((a0.getD []).length:Int)))
   (some v1)
   (obind (E22w a0) fun v5=>
   cond (decide (v5=0))
    (obind (f54 a0 90000) fun v8=>
    cond v8
     (obind (E55 (wrapF .i64 (1 + (wrapF .i64 a1))) ((a0.getD []).length:Int)) fun v11=>
     obind (itO (s8_0 a0 a2 v11) (none,none,none,0,false,false,false)) fun d395=>
     obind (E18 a0) fun v397=>
     obind (f56 v397) fun v399=>
     obind (itO (s8_2 a0 d395 v399) 0) fun d426=>match d426 with
      | .inl d428=>
       some false
      | .inr d429=>
       obind (remO ((a0.getD []).length:Int) 2) fun v430=>
       cond (decide (v399.2.2=0) == decide (v430=0))
        (cond (decide (((a0.getD []).length:Int)=0))
         (obind (f57 none) fun v434=>
         some (decide (v434.2=12)))
         (obind (f57 v397) fun v436=>
         obind (E18 d395.1) fun v438=>
         obind (f57 v438) fun v440=>
         cond (decide (v436.2=0))
          (cond (decide (v440.2=0))
           (cond (decide ((min v440.1 v436.1) < 0))
            (some false)
            (cond (decide (((a0.getD []).length:Int)≤(max v440.1 v436.1)))
             (some false)
             (obind (itO (s8_3 a0 d395 v436 v440) (0,0,0)) fun d795=>match d795 with
              | .inl d797=>
               some false
              | .inr d798=>
               obind (itO (s8_5 a0 d798) 0) fun d872=>match d872 with
                | .inl d874=>
                 some false
                | .inr d875=>
                 some (decide (d798.2.1=d798.2.2)))))
           (some false))
          (some false)))
        (some false))
     (some v1))
    (some v1)))
  (some v1)
theorem W8 {a0:Option (List GUnit)} {a1:Int} {a2:Int} {r} (h:f8 a0 a1 a2=some r):callIso prT (X prT) 8 [sl 2 vunit a0,.int .u16 a1,.int .u8 a2]=some (.bool r,false):=by
 unfold f8 at h
 obtain ⟨v1,h2,h⟩:=obind_some h
 have wh2:callIso prT (X prT) 14 []=some (.bool v1,false):=TWE14 h2
 rcases cond_split h with ⟨h3,h⟩ | ⟨h3,h⟩
 ·rcases cond_split h with ⟨h4,h⟩ | ⟨h4,h⟩
  ·have hr:v1=r:=Option.some.inj h
   subst hr
   have this:∃ hh,callFn prT (X prT) 8 [sl 2 vunit a0,.int .u16 a1,.int .u8 a2] []=some (.bool v1,false,hh):=by
    rw [callFn_at (show prT.fns 8=some c8 from rfl) (by simp)]
    simp only [go_sem,seval,c8,wh2,h3,h4]
    exact ⟨_,rfl⟩
   obtain ⟨hh,this⟩:=this
   exact callIso_of rfl this (by first | rfl | simp only [go_sem,seval]) (by first | rfl | simp only [go_sem,seval])
  ·obtain ⟨v5,h6,h⟩:=obind_some h
   have wh6:callIso prT (X prT) 22 [sl 2 vunit a0]=some (.int .i64 v5,false):=TWE22w h6
   rcases cond_split h with ⟨h7,h⟩ | ⟨h7,h⟩
   ·obtain ⟨v8,h9,h⟩:=obind_some h
    have wh9:callIso prT (X prT) 54 [sl 2 vunit a0,.int .i64 90000]=some (.bool v8,false):=TW54 h9
    rcases cond_split h with ⟨h10,h⟩ | ⟨h10,h⟩
    ·obtain ⟨v11,h12,h⟩:=obind_some h
     have wh12:callIso prT (X prT) 55 [.int .i64 (wrapF .i64 (1 + (wrapF .i64 a1))),.int .i64 ((a0.getD []).length:Int)]=some (sl 1 vint v11,false):=WT55 h12
     obtain ⟨d395,h396,h⟩:=obind_some h
     have wh396:X prT (.loop c8_0) ⟨[(0,sl 2 vunit a0,false),(2,.int .u8 a2,false),(7,sl 1 vint v11,false),(8,.list true 0 [],false),(9,.list true 0 [],false),(10,.list true 0 [],false),(69,sl 2 vunit a0,false),(70,.int .i64 ((a0.getD []).length:Int),false),(71,.int .i64 0,false)],[]⟩=some (.exit 0,⟨[(0,sl 2 vunit a0,false),(2,.int .u8 a2,false),(7,sl 1 vint v11,false),(8,sl 2 vunit d395.1,d395.2.1),(9,sl 2 vunit d395.2.2.1,d395.2.2.2.1),(10,sl 2 vunit d395.2.2.2.2.1,d395.2.2.2.2.2.1),(69,sl 2 vunit a0,false),(70,.int .i64 ((a0.getD []).length:Int),false),(71,.int .i64 d395.2.2.2.2.2.2,false),(72,.bool false,false)],[]⟩):=l8_0 a0 a2 v11 h396
     obtain ⟨v397,h398,h⟩:=obind_some h
     have wh398:callIso prT (X prT) 18 [sl 2 vunit a0]=some (sl 2 vunit v397,(accO (a0.getD []))):=TWE18 h398
     obtain ⟨v399,h400,h⟩:=obind_some h
     have wh400:callIso prT (X prT) 56 [sl 2 vunit v397]=some (.tup [sl 2 vpair v399.1,.int .i64 v399.2.1,.int .i64 v399.2.2],false):=TW56 h400
     obtain ⟨d426,h427,h⟩:=obind_some h
     rcases d426 with d428 | d429
     ·have wh427:X prT (.loop c8_2) ⟨[(0,sl 2 vunit a0,false),(8,sl 2 vunit d395.1,d395.2.1),(18,.int .i64 v399.2.1,false),(19,.int .i64 v399.2.2,false),(135,.list false 1 [sl 2 vunit d395.1,sl 2 vunit d395.2.2.1,sl 2 vunit d395.2.2.2.2.1],true),(136,.int .i64 3,false),(137,.int .i64 0,false)],[]⟩=some (.ret,⟨[(6,.bool false,false)],[]⟩):=l8_2 a0 d395 v399 h427
      have hr:false=r:=Option.some.inj h
      subst hr
      have this:∃ hh,callFn prT (X prT) 8 [sl 2 vunit a0,.int .u16 a1,.int .u8 a2] []=some (.bool false,false,hh):=by
       rw [callFn_at (show prT.fns 8=some c8 from rfl) (by simp)]
       simp only [go_sem,seval,c8,wh2,h3,h4,wh6,h7,wh9,h10,wh12,wh396,wh398,wh400,wh427]
       exact ⟨_,rfl⟩
      obtain ⟨hh,this⟩:=this
      exact callIso_of rfl this (by first | rfl | simp only [go_sem,seval]) (by first | rfl | simp only [go_sem,seval])
     ·have wh427:X prT (.loop c8_2) ⟨[(0,sl 2 vunit a0,false),(8,sl 2 vunit d395.1,d395.2.1),(18,.int .i64 v399.2.1,false),(19,.int .i64 v399.2.2,false),(135,.list false 1 [sl 2 vunit d395.1,sl 2 vunit d395.2.2.1,sl 2 vunit d395.2.2.2.2.1],true),(136,.int .i64 3,false),(137,.int .i64 0,false)],[]⟩=some (.exit 4,⟨[(0,sl 2 vunit a0,false),(8,sl 2 vunit d395.1,d395.2.1),(18,.int .i64 v399.2.1,false),(19,.int .i64 v399.2.2,false),(135,.list false 1 [sl 2 vunit d395.1,sl 2 vunit d395.2.2.1,sl 2 vunit d395.2.2.2.2.1],true),(136,.int .i64 3,false),(137,.int .i64 d429,false),(138,.bool false,false)],[]⟩):=l8_2 a0 d395 v399 h427
      obtain ⟨v430,h431,h⟩:=obind_some h
      rcases cond_split h with ⟨h432,h⟩ | ⟨h432,h⟩
      ·rcases cond_split h with ⟨h433,h⟩ | ⟨h433,h⟩
       ·obtain ⟨v434,h435,h⟩:=obind_some h
        have wh435:callIso prT (X prT) 57 [.list true 0 []]=some (.tup [.int .i64 v434.1,.int .i64 v434.2],false):=TW57 h435
        have hr:decide (v434.2=12)=r:=Option.some.inj h
        subst hr
        have this:∃ hh,callFn prT (X prT) 8 [sl 2 vunit a0,.int .u16 a1,.int .u8 a2] []=some (.bool (decide (v434.2=12)),false,hh):=by
         rw [callFn_at (show prT.fns 8=some c8 from rfl) (by simp)]
         simp only [go_sem,seval,c8,wh2,h3,h4,wh6,h7,wh9,h10,wh12,wh396,wh398,wh400,wh427,b_rem_O h431,h432,h433,wh435]
         exact ⟨_,rfl⟩
        obtain ⟨hh,this⟩:=this
        exact callIso_of rfl this (by first | rfl | simp only [go_sem,seval]) (by first | rfl | simp only [go_sem,seval])
       ·obtain ⟨v436,h437,h⟩:=obind_some h
        have wh437:callIso prT (X prT) 57 [sl 2 vunit v397]=some (.tup [.int .i64 v436.1,.int .i64 v436.2],false):=TW57 h437
        obtain ⟨v438,h439,h⟩:=obind_some h
        have wh439:callIso prT (X prT) 18 [sl 2 vunit d395.1]=some (sl 2 vunit v438,(accO (d395.1.getD []))):=TWE18 h439
        obtain ⟨v440,h441,h⟩:=obind_some h
        have wh441:callIso prT (X prT) 57 [sl 2 vunit v438]=some (.tup [.int .i64 v440.1,.int .i64 v440.2],false):=TW57 h441
        rcases cond_split h with ⟨h442,h⟩ | ⟨h442,h⟩
        ·rcases cond_split h with ⟨h443,h⟩ | ⟨h443,h⟩
         ·rcases cond_split h with ⟨h444,h⟩ | ⟨h444,h⟩
          ·have hr:false=r:=Option.some.inj h
           subst hr
           have this:∃ hh,callFn prT (X prT) 8 [sl 2 vunit a0,.int .u16 a1,.int .u8 a2] []=some (.bool false,false,hh):=by
            rw [callFn_at (show prT.fns 8=some c8 from rfl) (by simp)]
            simp only [go_sem,seval,c8,wh2,h3,h4,wh6,h7,wh9,h10,wh12,wh396,wh398,wh400,wh427,b_rem_O h431,h432,h433,wh437,wh439,wh441,h442,h443,h444]
            exact ⟨_,rfl⟩
           obtain ⟨hh,this⟩:=this
           exact callIso_of rfl this (by first | rfl | simp only [go_sem,seval]) (by first | rfl | simp only [go_sem,seval])
          ·rcases cond_split h with ⟨h445,h⟩ | ⟨h445,h⟩
           ·have hr:false=r:=Option.some.inj h
            subst hr
            have this:∃ hh,callFn prT (X prT) 8 [sl 2 vunit a0,.int .u16 a1,.int .u8 a2] []=some (.bool false,false,hh):=by
             rw [callFn_at (show prT.fns 8=some c8 from rfl) (by simp)]
             simp only [go_sem,seval,c8,wh2,h3,h4,wh6,h7,wh9,h10,wh12,wh396,wh398,wh400,wh427,b_rem_O h431,h432,h433,wh437,wh439,wh441,h442,h443,h444,h445]
             exact ⟨_,rfl⟩
            obtain ⟨hh,this⟩:=this
            exact callIso_of rfl this (by first | rfl | simp only [go_sem,seval]) (by first | rfl | simp only [go_sem,seval])
           ·obtain ⟨d795,h796,h⟩:=obind_some h
            rcases d795 with d797 | d798
            ·have wh796:X prT (.loop c8_3) ⟨[(0,sl 2 vunit a0,false),(8,sl 2 vunit d395.1,d395.2.1),(27,.int .i64 v436.1,false),(29,.int .i64 v440.1,false),(31,.ptr 0 0,false),(206,.int .i64 ((a0.getD []).length:Int),false),(207,.int .i64 0,false)],[.cells [(.int .i64 0,false),(.int .i64 0,false)]]⟩=some (.ret,⟨[(6,.bool false,false)],[.cells [(.int .i64 d797.1,false),(.int .i64 d797.2,false)]]⟩):=l8_3 a0 d395 v436 v440 h796
             have hr:false=r:=Option.some.inj h
             subst hr
             have this:∃ hh,callFn prT (X prT) 8 [sl 2 vunit a0,.int .u16 a1,.int .u8 a2] []=some (.bool false,false,hh):=by
              rw [callFn_at (show prT.fns 8=some c8 from rfl) (by simp)]
              simp only [go_sem,seval,c8,wh2,h3,h4,wh6,h7,wh9,h10,wh12,wh396,wh398,wh400,wh427,b_rem_O h431,h432,h433,wh437,wh439,wh441,h442,h443,h444,h445,wh796]
              exact ⟨_,rfl⟩
             obtain ⟨hh,this⟩:=this
             exact callIso_of rfl this (by first | rfl | simp only [go_sem,seval]) (by first | rfl | simp only [go_sem,seval])
            ·have wh796:X prT (.loop c8_3) ⟨[(0,sl 2 vunit a0,false),(8,sl 2 vunit d395.1,d395.2.1),(27,.int .i64 v436.1,false),(29,.int .i64 v440.1,false),(31,.ptr 0 0,false),(206,.int .i64 ((a0.getD []).length:Int),false),(207,.int .i64 0,false)],[.cells [(.int .i64 0,false),(.int .i64 0,false)]]⟩=some (.exit 6,⟨[(0,sl 2 vunit a0,false),(8,sl 2 vunit d395.1,d395.2.1),(27,.int .i64 v436.1,false),(29,.int .i64 v440.1,false),(31,.ptr 0 0,false),(206,.int .i64 ((a0.getD []).length:Int),false),(207,.int .i64 d798.1,false),(208,.bool false,false)],[.cells [(.int .i64 d798.2.1,false),(.int .i64 d798.2.2,false)]]⟩):=l8_3 a0 d395 v436 v440 h796
             obtain ⟨d872,h873,h⟩:=obind_some h
             rcases d872 with d874 | d875
             ·have wh873:X prT (.loop c8_5) ⟨[(0,sl 2 vunit a0,false),(31,.ptr 0 0,false),(349,.int .i64 ((a0.getD []).length:Int),false),(350,.int .i64 0,false)],[.cells [(.int .i64 d798.2.1,false),(.int .i64 d798.2.2,false)]]⟩=some (.ret,⟨[(6,.bool false,false)],[.cells [(.int .i64 d798.2.1,false),(.int .i64 d798.2.2,false)]]⟩):=l8_5 a0 d798 h873
              have hr:false=r:=Option.some.inj h
              subst hr
              have this:∃ hh,callFn prT (X prT) 8 [sl 2 vunit a0,.int .u16 a1,.int .u8 a2] []=some (.bool false,false,hh):=by
               rw [callFn_at (show prT.fns 8=some c8 from rfl) (by simp)]
               simp only [go_sem,seval,c8,wh2,h3,h4,wh6,h7,wh9,h10,wh12,wh396,wh398,wh400,wh427,b_rem_O h431,h432,h433,wh437,wh439,wh441,h442,h443,h444,h445,wh796,wh873]
               exact ⟨_,rfl⟩
              obtain ⟨hh,this⟩:=this
              exact callIso_of rfl this (by first | rfl | simp only [go_sem,seval]) (by first | rfl | simp only [go_sem,seval])
             ·have wh873:X prT (.loop c8_5) ⟨[(0,sl 2 vunit a0,false),(31,.ptr 0 0,false),(349,.int .i64 ((a0.getD []).length:Int),false),(350,.int .i64 0,false)],[.cells [(.int .i64 d798.2.1,false),(.int .i64 d798.2.2,false)]]⟩=some (.exit 10,⟨[(0,sl 2 vunit a0,false),(31,.ptr 0 0,false),(349,.int .i64 ((a0.getD []).length:Int),false),(350,.int .i64 d875,false),(351,.bool false,false)],[.cells [(.int .i64 d798.2.1,false),(.int .i64 d798.2.2,false)]]⟩):=l8_5 a0 d798 h873
              have hr:decide (d798.2.1=d798.2.2)=r:=Option.some.inj h
              subst hr
              have this:∃ hh,callFn prT (X prT) 8 [sl 2 vunit a0,.int .u16 a1,.int .u8 a2] []=some (.bool (decide (d798.2.1=d798.2.2)),false,hh):=by
               rw [callFn_at (show prT.fns 8=some c8 from rfl) (by simp)]
               simp only [go_sem,seval,c8,wh2,h3,h4,wh6,h7,wh9,h10,wh12,wh396,wh398,wh400,wh427,b_rem_O h431,h432,h433,wh437,wh439,wh441,h442,h443,h444,h445,wh796,wh873]
               exact ⟨_,rfl⟩
              obtain ⟨hh,this⟩:=this
              exact callIso_of rfl this (by first | rfl | simp only [go_sem,seval]) (by first | rfl | simp only [go_sem,seval])
         ·have hr:false=r:=Option.some.inj h
          subst hr
          have this:∃ hh,callFn prT (X prT) 8 [sl 2 vunit a0,.int .u16 a1,.int .u8 a2] []=some (.bool false,false,hh):=by
           rw [callFn_at (show prT.fns 8=some c8 from rfl) (by simp)]
           simp only [go_sem,seval,c8,wh2,h3,h4,wh6,h7,wh9,h10,wh12,wh396,wh398,wh400,wh427,b_rem_O h431,h432,h433,wh437,wh439,wh441,h442,h443]
           exact ⟨_,rfl⟩
          obtain ⟨hh,this⟩:=this
          exact callIso_of rfl this (by first | rfl | simp only [go_sem,seval]) (by first | rfl | simp only [go_sem,seval])
        ·have hr:false=r:=Option.some.inj h
         subst hr
         have this:∃ hh,callFn prT (X prT) 8 [sl 2 vunit a0,.int .u16 a1,.int .u8 a2] []=some (.bool false,false,hh):=by
          rw [callFn_at (show prT.fns 8=some c8 from rfl) (by simp)]
          simp only [go_sem,seval,c8,wh2,h3,h4,wh6,h7,wh9,h10,wh12,wh396,wh398,wh400,wh427,b_rem_O h431,h432,h433,wh437,wh439,wh441,h442]
          exact ⟨_,rfl⟩
         obtain ⟨hh,this⟩:=this
         exact callIso_of rfl this (by first | rfl | simp only [go_sem,seval]) (by first | rfl | simp only [go_sem,seval])
      ·have hr:false=r:=Option.some.inj h
       subst hr
       have this:∃ hh,callFn prT (X prT) 8 [sl 2 vunit a0,.int .u16 a1,.int .u8 a2] []=some (.bool false,false,hh):=by
        rw [callFn_at (show prT.fns 8=some c8 from rfl) (by simp)]
        simp only [go_sem,seval,c8,wh2,h3,h4,wh6,h7,wh9,h10,wh12,wh396,wh398,wh400,wh427,b_rem_O h431,h432]
        exact ⟨_,rfl⟩
       obtain ⟨hh,this⟩:=this
       exact callIso_of rfl this (by first | rfl | simp only [go_sem,seval]) (by first | rfl | simp only [go_sem,seval])
    ·have hr:v1=r:=Option.some.inj h
     subst hr
     have this:∃ hh,callFn prT (X prT) 8 [sl 2 vunit a0,.int .u16 a1,.int .u8 a2] []=some (.bool v1,false,hh):=by
      rw [callFn_at (show prT.fns 8=some c8 from rfl) (by simp)]
      simp only [go_sem,seval,c8,wh2,h3,h4,wh6,h7,wh9,h10]
      exact ⟨_,rfl⟩
     obtain ⟨hh,this⟩:=this
     exact callIso_of rfl this (by first | rfl | simp only [go_sem,seval]) (by first | rfl | simp only [go_sem,seval])
   ·have hr:v1=r:=Option.some.inj h
    subst hr
    have this:∃ hh,callFn prT (X prT) 8 [sl 2 vunit a0,.int .u16 a1,.int .u8 a2] []=some (.bool v1,false,hh):=by
     rw [callFn_at (show prT.fns 8=some c8 from rfl) (by simp)]
     simp only [go_sem,seval,c8,wh2,h3,h4,wh6,h7]
     exact ⟨_,rfl⟩
    obtain ⟨hh,this⟩:=this
    exact callIso_of rfl this (by first | rfl | simp only [go_sem,seval]) (by first | rfl | simp only [go_sem,seval])
 ·have hr:v1=r:=Option.some.inj h
  subst hr
  have this:∃ hh,callFn prT (X prT) 8 [sl 2 vunit a0,.int .u16 a1,.int .u8 a2] []=some (.bool v1,false,hh):=by
   rw [callFn_at (show prT.fns 8=some c8 from rfl) (by simp)]
   simp only [go_sem,seval,c8,wh2,h3]
   exact ⟨_,rfl⟩
  obtain ⟨hh,this⟩:=this
  exact callIso_of rfl this (by first | rfl | simp only [go_sem,seval]) (by first | rfl | simp only [go_sem,seval])
end Go.Z
