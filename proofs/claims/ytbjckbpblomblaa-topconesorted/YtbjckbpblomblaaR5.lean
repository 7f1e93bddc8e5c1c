/-
  Pairs: functions that mirror the runs, and the runs, fourth part (printed by walk.py).
-/
import Derived.Test.YtbjckbpblomblaaR3
import Derived.Test.YtbjckbpblomblaaG0m
set_option linter.unusedVariables false
set_option linter.unusedSimpArgs false
set_option maxRecDepth 100000
set_option maxHeartbeats 4000000
namespace Go.Z
open Go Go.Abs
noncomputable def s8_0 (a0:Option (List GUnit)) (a1:Option (List GPair)) (s1000:Int × (List Int) × Int × Int):Option ((Int × (List Int) × Int × Int) ⊕ ((Int × (List Int) × Int × Int × Int × Int) ⊕ (Int × (List Int) × Int × Int))):=
 cond (decide (s1000.1 < ((a1.getD []).length:Int)))
  (obind (idxO (a1.getD []) s1000.1) fun v305=>
  cond (decide (v305.b≤v305.a))
   (cond (decide ((min v305.a v305.b) < 0))
    (obind (E58 true 10) fun v309=>
    obind (E58 true 11) fun v311=>
    cond (memI s1000.2.1 v305.a)
     (obind (E58 true 9) fun v314=>
     obind (E12 (some [v309,v311,v314])) fun v316=>
     cond (decide (v316=0))
      (obind (addO s1000.2.1 v305.a) fun v319=>
      obind (addO v319 v305.b) fun v321=>
      some (.inl (wrapF .i64 (s1000.1 + 1),v321,v305.a,v305.b)))
      (some (.inr (.inl (v316,s1000.2.1,s1000.2.2.1,s1000.2.2.2,v305.a,v305.b)))))
     (obind (E58 (memI s1000.2.1 v305.b) 9) fun v323=>
     obind (E12 (some [v309,v311,v323])) fun v325=>
     cond (decide (v325=0))
      (obind (addO s1000.2.1 v305.a) fun v328=>
      obind (addO v328 v305.b) fun v330=>
      some (.inl (wrapF .i64 (s1000.1 + 1),v330,v305.a,v305.b)))
      (some (.inr (.inl (v325,s1000.2.1,s1000.2.2.1,s1000.2.2.2,v305.a,v305.b))))))
    (obind (E58 (decide (((a0.getD []).length:Int)≤(max v305.a v305.b))) 10) fun v332=>
    obind (E58 true 11) fun v334=>
    cond (memI s1000.2.1 v305.a)
     (obind (E58 true 9) fun v337=>
     obind (E12 (some [v332,v334,v337])) fun v339=>
     cond (decide (v339=0))
      (obind (addO s1000.2.1 v305.a) fun v342=>
      obind (addO v342 v305.b) fun v344=>
      some (.inl (wrapF .i64 (s1000.1 + 1),v344,v305.a,v305.b)))
      (some (.inr (.inl (v339,s1000.2.1,s1000.2.2.1,s1000.2.2.2,v305.a,v305.b)))))
     (obind (E58 (memI s1000.2.1 v305.b) 9) fun v346=>
     obind (E12 (some [v332,v334,v346])) fun v348=>
     cond (decide (v348=0))
      (obind (addO s1000.2.1 v305.a) fun v351=>
      obind (addO v351 v305.b) fun v353=>
      some (.inl (wrapF .i64 (s1000.1 + 1),v353,v305.a,v305.b)))
      (some (.inr (.inl (v348,s1000.2.1,s1000.2.2.1,s1000.2.2.2,v305.a,v305.b)))))))
   (cond (decide (v305.a≤s1000.2.2.1))
    (cond (decide ((min v305.a v305.b) < 0))
     (obind (E58 true 10) fun v357=>
     obind (E58 true 11) fun v359=>
     cond (memI s1000.2.1 v305.a)
      (obind (E58 true 9) fun v362=>
      obind (E12 (some [v357,v359,v362])) fun v364=>
      cond (decide (v364=0))
       (obind (addO s1000.2.1 v305.a) fun v367=>
       obind (addO v367 v305.b) fun v369=>
       some (.inl (wrapF .i64 (s1000.1 + 1),v369,v305.a,v305.b)))
       (some (.inr (.inl (v364,s1000.2.1,s1000.2.2.1,s1000.2.2.2,v305.a,v305.b)))))
      (obind (E58 (memI s1000.2.1 v305.b) 9) fun v371=>
      obind (E12 (some [v357,v359,v371])) fun v373=>
      cond (decide (v373=0))
       (obind (addO s1000.2.1 v305.a) fun v376=>
       obind (addO v376 v305.b) fun v378=>
       some (.inl (wrapF .i64 (s1000.1 + 1),v378,v305.a,v305.b)))
       (some (.inr (.inl (v373,s1000.2.1,s1000.2.2.1,s1000.2.2.2,v305.a,v305.b))))))
     (obind (E58 (decide (((a0.getD []).length:Int)≤(max v305.a v305.b))) 10) fun v380=>
     obind (E58 true 11) fun v382=>
     cond (memI s1000.2.1 v305.a)
      (obind (E58 true 9) fun v385=>
      obind (E12 (some [v380,v382,v385])) fun v387=>
      cond (decide (v387=0))
       (obind (addO s1000.2.1 v305.a) fun v390=>
       obind (addO v390 v305.b) fun v392=>
       some (.inl (wrapF .i64 (s1000.1 + 1),v392,v305.a,v305.b)))
       (some (.inr (.inl (v387,s1000.2.1,s1000.2.2.1,s1000.2.2.2,v305.a,v305.b)))))
      (obind (E58 (memI s1000.2.1 v305.b) 9) fun v394=>
      obind (E12 (some [v380,v382,v394])) fun v396=>
      cond (decide (v396=0))
       (obind (addO s1000.2.1 v305.a) fun v399=>
       obind (addO v399 v305.b) fun v401=>
       some (.inl (wrapF .i64 (s1000.1 + 1),v401,v305.a,v305.b)))
       (some (.inr (.inl (v396,s1000.2.1,s1000.2.2.1,s1000.2.2.2,v305.a,v305.b)))))))
    (cond (decide ((min v305.a v305.b) < 0))
     (obind (E58 true 10) fun v404=>
     obind (E58 (decide (v305.a=s1000.2.2.1) && decide (v305.b=s1000.2.2.2)) 11) fun v406=>
     cond (memI s1000.2.1 v305.a)
      (obind (E58 true 9) fun v409=>
      obind (E12 (some [v404,v406,v409])) fun v411=>
      cond (decide (v411=0))
       (obind (addO s1000.2.1 v305.a) fun v414=>
       obind (addO v414 v305.b) fun v416=>
       some (.inl (wrapF .i64 (s1000.1 + 1),v416,v305.a,v305.b)))
       (some (.inr (.inl (v411,s1000.2.1,s1000.2.2.1,s1000.2.2.2,v305.a,v305.b)))))
      (obind (E58 (memI s1000.2.1 v305.b) 9) fun v418=>
      obind (E12 (some [v404,v406,v418])) fun v420=>
      cond (decide (v420=0))
       (obind (addO s1000.2.1 v305.a) fun v423=>
       obind (addO v423 v305.b) fun v425=>
       some (.inl (wrapF .i64 (s1000.1 + 1),v425,v305.a,v305.b)))
       (some (.inr (.inl (v420,s1000.2.1,s1000.2.2.1,s1000.2.2.2,v305.a,v305.b))))))
     (obind (E58 (decide (((a0.getD []).length:Int)≤(max v305.a v305.b))) 10) fun v427=>
     obind (E58 (decide (v305.a=s1000.2.2.1) && decide (v305.b=s1000.2.2.2)) 11) fun v429=>
     cond (memI s1000.2.1 v305.a)
      (obind (E58 true 9) fun v432=>
      obind (E12 (some [v427,v429,v432])) fun v434=>
      cond (decide (v434=0))
       (obind (addO s1000.2.1 v305.a) fun v437=>
       obind (addO v437 v305.b) fun v439=>
       some (.inl (wrapF .i64 (s1000.1 + 1),v439,v305.a,v305.b)))
       (some (.inr (.inl (v434,s1000.2.1,s1000.2.2.1,s1000.2.2.2,v305.a,v305.b)))))
      (obind (E58 (memI s1000.2.1 v305.b) 9) fun v441=>
      obind (E12 (some [v427,v429,v441])) fun v443=>
      cond (decide (v443=0))
       (obind (addO s1000.2.1 v305.a) fun v446=>
       obind (addO v446 v305.b) fun v448=>
       some (.inl (wrapF .i64 (s1000.1 + 1),v448,v305.a,v305.b)))
       (some (.inr (.inl (v443,s1000.2.1,s1000.2.2.1,s1000.2.2.2,v305.a,v305.b)))))))))
  (some (.inr (.inr (s1000.1,s1000.2.1,s1000.2.2.1,s1000.2.2.2))))
def St8_0 (a0:Option (List GUnit)) (a1:Option (List GPair)) (s1000:Int × (List Int) × Int × Int):ASt:=⟨[(0,sl 2 vunit a0,false),(1,sl 2 vpair a1,false),(7,.map 0,false),(8,.ptr 1 0,false),(36,sl 2 vpair a1,false),(37,.int .i64 ((a1.getD []).length:Int),false),(38,.int .i64 s1000.1,false)],[.map (mapI s1000.2.1),.cells [(.int .i64 s1000.2.2.1,false),(.int .i64 s1000.2.2.2,false)]]⟩
def Ex8_0 (a0:Option (List GUnit)) (a1:Option (List GPair)):(Int × (List Int) × Int × Int × Int × Int) ⊕ (Int × (List Int) × Int × Int)→AExit × ASt
 | .inl d=>(.ret,⟨[(4,.int .i64 0,false),(5,.int .i64 d.1,false)],[.map (mapI d.2.1),.cells [(.int .i64 d.2.2.1,false),(.int .i64 d.2.2.2.1,false)],.cells [(.int .i64 d.2.2.2.2.1,false),(.int .i64 d.2.2.2.2.2,false)]]⟩)
 | .inr d=>(.exit 0,⟨[(0,sl 2 vunit a0,false),(1,sl 2 vpair a1,false),(7,.map 0,false),(8,.ptr 1 0,false),(36,sl 2 vpair a1,false),(37,.int .i64 ((a1.getD []).length:Int),false),(38,.int .i64 d.1,false),(39,.bool false,false)],[.map (mapI d.2.1),.cells [(.int .i64 d.2.2.1,false),(.int .i64 d.2.2.2,false)]]⟩)
theorem b8_0 (a0:Option (List GUnit)) (a1:Option (List GPair)) (s1000:Int × (List Int) × Int × Int) (r) (h:s8_0 a0 a1 s1000=some r):stepO pr c8_0 (St8_0 a0 a1) (Ex8_0 a0 a1) s1000 r:=by
 unfold s8_0 at h
 rcases cond_split h with ⟨h304,h⟩ | ⟨h304,h⟩
 ·obtain ⟨v305,h306,h⟩:=obind_some h
  rcases cond_split h with ⟨h307,h⟩ | ⟨h307,h⟩
  ·rcases cond_split h with ⟨h308,h⟩ | ⟨h308,h⟩
   ·obtain ⟨v309,h310,h⟩:=obind_some h
    have wh310:callIso pr (X pr) 20 [.bool true,.int .i64 10]=some (.int .i64 v309,false):=WE20 h310
    obtain ⟨v311,h312,h⟩:=obind_some h
    have wh312:callIso pr (X pr) 20 [.bool true,.int .i64 11]=some (.int .i64 v311,false):=WE20 h312
    rcases cond_split h with ⟨h313,h⟩ | ⟨h313,h⟩
    ·obtain ⟨v314,h315,h⟩:=obind_some h
     have wh315:callIso pr (X pr) 20 [.bool true,.int .i64 9]=some (.int .i64 v314,false):=WE20 h315
     obtain ⟨v316,h317,h⟩:=obind_some h
     have wh317:callIso pr (X pr) 18 [.list false 1 [.int .i64 v309,.int .i64 v311,.int .i64 v314]]=some (.int .i64 v316,false):=WE18 h317
     rcases cond_split h with ⟨h318,h⟩ | ⟨h318,h⟩
     ·obtain ⟨v319,h320,h⟩:=obind_some h
      obtain ⟨v321,h322,h⟩:=obind_some h
      cases h
      exact stepO_in (st':=⟨[(0,sl 2 vunit a0,false),(1,sl 2 vpair a1,false),(7,.map 0,false),(8,.ptr 1 0,false),(36,sl 2 vpair a1,false),(37,.int .i64 ((a1.getD []).length:Int),false),(38,.int .i64 (wrapF .i64 (s1000.1 + 1)),false)],[.map (mapI v321),.cells [(.int .i64 v305.a,false),(.int .i64 v305.b,false)]]++[.cells [(.int .i64 v305.a,false),(.int .i64 v305.b,false)]]⟩) (by simp only [go_sem,seval,c8_0,St8_0,h304,idxR_O h306,h307,h308,wh310,wh312,lookI,h313,wh315,wh317,h318,updI_O h320,updI_O h322] <;> rfl) (gc_over rfl rfl (by first | simp only [go_sem,seval,St8_0] | rfl) (by first | simp only [go_sem,seval,St8_0] | rfl))
     ·cases h
      exact stepO_out (by simp only [go_sem,seval,c8_0,St8_0,h304,idxR_O h306,h307,h308,wh310,wh312,lookI,h313,wh315,wh317,h318,Ex8_0] <;> rfl)
    ·obtain ⟨v323,h324,h⟩:=obind_some h
     have wh324:callIso pr (X pr) 20 [.bool (memI s1000.2.1 v305.b),.int .i64 9]=some (.int .i64 v323,false):=WE20 h324
     obtain ⟨v325,h326,h⟩:=obind_some h
     have wh326:callIso pr (X pr) 18 [.list false 1 [.int .i64 v309,.int .i64 v311,.int .i64 v323]]=some (.int .i64 v325,false):=WE18 h326
     rcases cond_split h with ⟨h327,h⟩ | ⟨h327,h⟩
     ·obtain ⟨v328,h329,h⟩:=obind_some h
      obtain ⟨v330,h331,h⟩:=obind_some h
      cases h
      exact stepO_in (st':=⟨[(0,sl 2 vunit a0,false),(1,sl 2 vpair a1,false),(7,.map 0,false),(8,.ptr 1 0,false),(36,sl 2 vpair a1,false),(37,.int .i64 ((a1.getD []).length:Int),false),(38,.int .i64 (wrapF .i64 (s1000.1 + 1)),false)],[.map (mapI v330),.cells [(.int .i64 v305.a,false),(.int .i64 v305.b,false)]]++[.cells [(.int .i64 v305.a,false),(.int .i64 v305.b,false)]]⟩) (by simp only [go_sem,seval,c8_0,St8_0,h304,idxR_O h306,h307,h308,wh310,wh312,lookI,h313,wh324,wh326,h327,updI_O h329,updI_O h331] <;> rfl) (gc_over rfl rfl (by first | simp only [go_sem,seval,St8_0] | rfl) (by first | simp only [go_sem,seval,St8_0] | rfl))
     ·cases h
      exact stepO_out (by simp only [go_sem,seval,c8_0,St8_0,h304,idxR_O h306,h307,h308,wh310,wh312,lookI,h313,wh324,wh326,h327,Ex8_0] <;> rfl)
   ·obtain ⟨v332,h333,h⟩:=obind_some h
    have wh333:callIso pr (X pr) 20 [.bool (decide (((a0.getD []).length:Int)≤(max v305.a v305.b))),.int .i64 10]=some (.int .i64 v332,false):=WE20 h333
    obtain ⟨v334,h335,h⟩:=obind_some h
    have wh335:callIso pr (X pr) 20 [.bool true,.int .i64 11]=some (.int .i64 v334,false):=WE20 h335
    rcases cond_split h with ⟨h336,h⟩ | ⟨h336,h⟩
    ·obtain ⟨v337,h338,h⟩:=obind_some h
     have wh338:callIso pr (X pr) 20 [.bool true,.int .i64 9]=some (.int .i64 v337,false):=WE20 h338
     obtain ⟨v339,h340,h⟩:=obind_some h
     have wh340:callIso pr (X pr) 18 [.list false 1 [.int .i64 v332,.int .i64 v334,.int .i64 v337]]=some (.int .i64 v339,false):=WE18 h340
     rcases cond_split h with ⟨h341,h⟩ | ⟨h341,h⟩
     ·obtain ⟨v342,h343,h⟩:=obind_some h
      obtain ⟨v344,h345,h⟩:=obind_some h
      cases h
      exact stepO_in (st':=⟨[(0,sl 2 vunit a0,false),(1,sl 2 vpair a1,false),(7,.map 0,false),(8,.ptr 1 0,false),(36,sl 2 vpair a1,false),(37,.int .i64 ((a1.getD []).length:Int),false),(38,.int .i64 (wrapF .i64 (s1000.1 + 1)),false)],[.map (mapI v344),.cells [(.int .i64 v305.a,false),(.int .i64 v305.b,false)]]++[.cells [(.int .i64 v305.a,false),(.int .i64 v305.b,false)]]⟩) (by simp only [go_sem,seval,c8_0,St8_0,h304,idxR_O h306,h307,h308,wh333,wh335,lookI,h336,wh338,wh340,h341,updI_O h343,updI_O h345] <;> rfl) (gc_over rfl rfl (by first | simp only [go_sem,seval,St8_0] | rfl) (by first | simp only [go_sem,seval,St8_0] | rfl))
     ·cases h
      exact stepO_out (by simp only [go_sem,seval,c8_0,St8_0,h304,idxR_O h306,h307,h308,wh333,wh335,lookI,h336,wh338,wh340,h341,Ex8_0] <;> rfl)
    ·obtain ⟨v346,h347,h⟩:=obind_some h
     have wh347:callIso pr (X pr) 20 [.bool (memI s1000.2.1 v305.b),.int .i64 9]=some (.int .i64 v346,false):=WE20 h347
     obtain ⟨v348,h349,h⟩:=obind_some h
     have wh349:callIso pr (X pr) 18 [.list false 1 [.int .i64 v332,.int .i64 v334,.int .i64 v346]]=some (.int .i64 v348,false):=WE18 h349
     rcases cond_split h with ⟨h350,h⟩ | ⟨h350,h⟩
     ·obtain ⟨v351,h352,h⟩:=obind_some h
      obtain ⟨v353,h354,h⟩:=obind_some h
      cases h
      exact stepO_in (st':=⟨[(0,sl 2 vunit a0,false),(1,sl 2 vpair a1,false),(7,.map 0,false),(8,.ptr 1 0,false),(36,sl 2 vpair a1,false),(37,.int .i64 ((a1.getD []).length:Int),false),(38,.int .i64 (wrapF .i64 (s1000.1 + 1)),false)],[.map (mapI v353),.cells [(.int .i64 v305.a,false),(.int .i64 v305.b,false)]]++[.cells [(.int .i64 v305.a,false),(.int .i64 v305.b,false)]]⟩) (by simp only [go_sem,seval,c8_0,St8_0,h304,idxR_O h306,h307,h308,wh333,wh335,lookI,h336,wh347,wh349,h350,updI_O h352,updI_O h354] <;> rfl) (gc_over rfl rfl (by first | simp only [go_sem,seval,St8_0] | rfl) (by first | simp only [go_sem,seval,St8_0] | rfl))
     ·cases h
      exact stepO_out (by simp only [go_sem,seval,c8_0,St8_0,h304,idxR_O h306,h307,h308,wh333,wh335,lookI,h336,wh347,wh349,h350,Ex8_0] <;> rfl)
  ·rcases cond_split h with ⟨h355,h⟩ | ⟨h355,h⟩
   ·rcases cond_split h with ⟨h356,h⟩ | ⟨h356,h⟩
    ·obtain ⟨v357,h358,h⟩:=obind_some h
     have wh358:callIso pr (X pr) 20 [.bool true,.int .i64 10]=some (.int .i64 v357,false):=WE20 h358
     obtain ⟨v359,h360,h⟩:=obind_some h
     have wh360:callIso pr (X pr) 20 [.bool true,.int .i64 11]=some (.int .i64 v359,false):=WE20 h360
     rcases cond_split h with ⟨h361,h⟩ | ⟨h361,h⟩
     ·obtain ⟨v362,h363,h⟩:=obind_some h
      have wh363:callIso pr (X pr) 20 [.bool true,.int .i64 9]=some (.int .i64 v362,false):=WE20 h363
      obtain ⟨v364,h365,h⟩:=obind_some h
      have wh365:callIso pr (X pr) 18 [.list false 1 [.int .i64 v357,.int .i64 v359,.int .i64 v362]]=some (.int .i64 v364,false):=WE18 h365
      rcases cond_split h with ⟨h366,h⟩ | ⟨h366,h⟩
      ·obtain ⟨v367,h368,h⟩:=obind_some h
       obtain ⟨v369,h370,h⟩:=obind_some h
       cases h
       exact stepO_in (st':=⟨[(0,sl 2 vunit a0,false),(1,sl 2 vpair a1,false),(7,.map 0,false),(8,.ptr 1 0,false),(36,sl 2 vpair a1,false),(37,.int .i64 ((a1.getD []).length:Int),false),(38,.int .i64 (wrapF .i64 (s1000.1 + 1)),false)],[.map (mapI v369),.cells [(.int .i64 v305.a,false),(.int .i64 v305.b,false)]]++[.cells [(.int .i64 v305.a,false),(.int .i64 v305.b,false)]]⟩) (by simp only [go_sem,seval,c8_0,St8_0,h304,idxR_O h306,h307,h355,h356,wh358,wh360,lookI,h361,wh363,wh365,h366,updI_O h368,updI_O h370] <;> rfl) (gc_over rfl rfl (by first | simp only [go_sem,seval,St8_0] | rfl) (by first | simp only [go_sem,seval,St8_0] | rfl))
      ·cases h
       exact stepO_out (by simp only [go_sem,seval,c8_0,St8_0,h304,idxR_O h306,h307,h355,h356,wh358,wh360,lookI,h361,wh363,wh365,h366,Ex8_0] <;> rfl)
     ·obtain ⟨v371,h372,h⟩:=obind_some h
      have wh372:callIso pr (X pr) 20 [.bool (memI s1000.2.1 v305.b),.int .i64 9]=some (.int .i64 v371,false):=WE20 h372
      obtain ⟨v373,h374,h⟩:=obind_some h
      have wh374:callIso pr (X pr) 18 [.list false 1 [.int .i64 v357,.int .i64 v359,.int .i64 v371]]=some (.int .i64 v373,false):=WE18 h374
      rcases cond_split h with ⟨h375,h⟩ | ⟨h375,h⟩
      ·obtain ⟨v376,h377,h⟩:=obind_some h
       obtain ⟨v378,h379,h⟩:=obind_some h
       cases h
       exact stepO_in (st':=⟨[(0,sl 2 vunit a0,false),(1,sl 2 vpair a1,false),(7,.map 0,false),(8,.ptr 1 0,false),(36,sl 2 vpair a1,false),(37,.int .i64 ((a1.getD []).length:Int),false),(38,.int .i64 (wrapF .i64 (s1000.1 + 1)),false)],[.map (mapI v378),.cells [(.int .i64 v305.a,false),(.int .i64 v305.b,false)]]++[.cells [(.int .i64 v305.a,false),(.int .i64 v305.b,false)]]⟩) (by simp only [go_sem,seval,c8_0,St8_0,h304,idxR_O h306,h307,h355,h356,wh358,wh360,lookI,h361,wh372,wh374,h375,updI_O h377,updI_O h379] <;> rfl) (gc_over rfl rfl (by first | simp only [go_sem,seval,St8_0] | rfl) (by first | simp only [go_sem,seval,St8_0] | rfl))
      ·cases h
       exact stepO_out (by simp only [go_sem,seval,c8_0,St8_0,h304,idxR_O h306,h307,h355,h356,wh358,wh360,lookI,h361,wh372,wh374,h375,Ex8_0] <;> rfl)
    ·obtain ⟨v380,h381,h⟩:=obind_some h
     have wh381:callIso pr (X pr) 20 [.bool (decide (((a0.getD []).length:Int)≤(max v305.a v305.b))),.int .i64 10]=some (.int .i64 v380,false):=WE20 h381
     obtain ⟨v382,h383,h⟩:=obind_some h
     have wh383:callIso pr (X pr) 20 [.bool true,.int .i64 11]=some (.int .i64 v382,false):=WE20 h383
     rcases cond_split h with ⟨h384,h⟩ | ⟨h384,h⟩
     ·obtain ⟨v385,h386,h⟩:=obind_some h
      have wh386:callIso pr (X pr) 20 [.bool true,.int .i64 9]=some (.int .i64 v385,false):=WE20 h386
      obtain ⟨v387,h388,h⟩:=obind_some h
      have wh388:callIso pr (X pr) 18 [.list false 1 [.int .i64 v380,.int .i64 v382,.int .i64 v385]]=some (.int .i64 v387,false):=WE18 h388
      rcases cond_split h with ⟨h389,h⟩ | ⟨h389,h⟩
      ·obtain ⟨v390,h391,h⟩:=obind_some h
       obtain ⟨v392,h393,h⟩:=obind_some h
       cases h
       exact stepO_in (st':=⟨[(0,sl 2 vunit a0,false),(1,sl 2 vpair a1,false),(7,.map 0,false),(8,.ptr 1 0,false),(36,sl 2 vpair a1,false),(37,.int .i64 ((a1.getD []).length:Int),false),(38,.int .i64 (wrapF .i64 (s1000.1 + 1)),false)],[.map (mapI v392),.cells [(.int .i64 v305.a,false),(.int .i64 v305.b,false)]]++[.cells [(.int .i64 v305.a,false),(.int .i64 v305.b,false)]]⟩) (by simp only [go_sem,seval,c8_0,St8_0,h304,idxR_O h306,h307,h355,h356,wh381,wh383,lookI,h384,wh386,wh388,h389,updI_O h391,updI_O h393] <;> rfl) (gc_over rfl rfl (by first | simp only [go_sem,seval,St8_0] | rfl) (by first | simp only [go_sem,seval,St8_0] | rfl))
      ·cases h
       exact stepO_out (by simp only [go_sem,seval,c8_0,St8_0,h304,idxR_O h306,h307,h355,h356,wh381,wh383,lookI,h384,wh386,wh388,h389,Ex8_0] <;> rfl)
     ·obtain ⟨v394,h395,h⟩:=obind_some h
      have wh395:callIso pr (X pr) 20 [.bool (memI s1000.2.1 v305.b),.int .i64 9]=some (.int .i64 v394,false):=WE20 h395
      obtain ⟨v396,h397,h⟩:=obind_some h
      have wh397:callIso pr (X pr) 18 [.list false 1 [.int .i64 v380,.int .i64 v382,.int .i64 v394]]=some (.int .i64 v396,false):=WE18 h397
      rcases cond_split h with ⟨h398,h⟩ | ⟨h398,h⟩
      ·obtain ⟨v399,h400,h⟩:=obind_some h
       obtain ⟨v401,h402,h⟩:=obind_some h
       cases h
       exact stepO_in (st':=⟨[(0,sl 2 vunit a0,false),(1,sl 2 vpair a1,false),(7,.map 0,false),(8,.ptr 1 0,false),(36,sl 2 vpair a1,false),(37,.int .i64 ((a1.getD []).length:Int),false),(38,.int .i64 (wrapF .i64 (s1000.1 + 1)),false)],[.map (mapI v401),.cells [(.int .i64 v305.a,false),(.int .i64 v305.b,false)]]++[.cells [(.int .i64 v305.a,false),(.int .i64 v305.b,false)]]⟩) (by simp only [go_sem,seval,c8_0,St8_0,h304,idxR_O h306,h307,h355,h356,wh381,wh383,lookI,h384,wh395,wh397,h398,updI_O h400,updI_O h402] <;> rfl) (gc_over rfl rfl (by first | simp only [go_sem,seval,St8_0] | rfl) (by first | simp only [go_sem,seval,St8_0] | rfl))
      ·cases h
       exact stepO_out (by simp only [go_sem,seval,c8_0,St8_0,h304,idxR_O h306,h307,h355,h356,wh381,wh383,lookI,h384,wh395,wh397,h398,Ex8_0] <;> rfl)
   ·rcases cond_split h with ⟨h403,h⟩ | ⟨h403,h⟩
    ·obtain ⟨v404,h405,h⟩:=obind_some h
     have wh405:callIso pr (X pr) 20 [.bool true,.int .i64 10]=some (.int .i64 v404,false):=WE20 h405
     obtain ⟨v406,h407,h⟩:=obind_some h
     have wh407:callIso pr (X pr) 20 [.bool (decide (v305.a=s1000.2.2.1) && decide (v305.b=s1000.2.2.2)),.int .i64 11]=some (.int .i64 v406,false):=WE20 h407
     rcases cond_split h with ⟨h408,h⟩ | ⟨h408,h⟩
     ·obtain ⟨v409,h410,h⟩:=obind_some h
      have wh410:callIso pr (X pr) 20 [.bool true,.int .i64 9]=some (.int .i64 v409,false):=WE20 h410
      obtain ⟨v411,h412,h⟩:=obind_some h
      have wh412:callIso pr (X pr) 18 [.list false 1 [.int .i64 v404,.int .i64 v406,.int .i64 v409]]=some (.int .i64 v411,false):=WE18 h412
      rcases cond_split h with ⟨h413,h⟩ | ⟨h413,h⟩
      ·obtain ⟨v414,h415,h⟩:=obind_some h
       obtain ⟨v416,h417,h⟩:=obind_some h
       cases h
       exact stepO_in (st':=⟨[(0,sl 2 vunit a0,false),(1,sl 2 vpair a1,false),(7,.map 0,false),(8,.ptr 1 0,false),(36,sl 2 vpair a1,false),(37,.int .i64 ((a1.getD []).length:Int),false),(38,.int .i64 (wrapF .i64 (s1000.1 + 1)),false)],[.map (mapI v416),.cells [(.int .i64 v305.a,false),(.int .i64 v305.b,false)]]++[.cells [(.int .i64 v305.a,false),(.int .i64 v305.b,false)]]⟩) (by simp only [go_sem,seval,c8_0,St8_0,h304,idxR_O h306,h307,h355,h403,wh405,wh407,lookI,h408,wh410,wh412,h413,updI_O h415,updI_O h417] <;> rfl) (gc_over rfl rfl (by first | simp only [go_sem,seval,St8_0] | rfl) (by first | simp only [go_sem,seval,St8_0] | rfl))
      ·cases h
       exact stepO_out (by simp only [go_sem,seval,c8_0,St8_0,h304,idxR_O h306,h307,h355,h403,wh405,wh407,lookI,h408,wh410,wh412,h413,Ex8_0] <;> rfl)
     ·obtain ⟨v418,h419,h⟩:=obind_some h
      have wh419:callIso pr (X pr) 20 [.bool (memI s1000.2.1 v305.b),.int .i64 9]=some (.int .i64 v418,false):=WE20 h419
      obtain ⟨v420,h421,h⟩:=obind_some h
      have wh421:callIso pr (X pr) 18 [.list false 1 [.int .i64 v404,.int .i64 v406,.int .i64 v418]]=some (.int .i64 v420,false):=WE18 h421
      rcases cond_split h with ⟨h422,h⟩ | ⟨h422,h⟩
      ·obtain ⟨v423,h424,h⟩:=obind_some h
       obtain ⟨v425,h426,h⟩:=obind_some h
       cases h
       exact stepO_in (st':=⟨[(0,sl 2 vunit a0,false),(1,sl 2 vpair a1,false),(7,.map 0,false),(8,.ptr 1 0,false),(36,sl 2 vpair a1,false),(37,.int .i64 ((a1.getD []).length:Int),false),(38,.int .i64 (wrapF .i64 (s1000.1 + 1)),false)],[.map (mapI v425),.cells [(.int .i64 v305.a,false),(.int .i64 v305.b,false)]]++[.cells [(.int .i64 v305.a,false),(.int .i64 v305.b,false)]]⟩) (by simp only [go_sem,seval,c8_0,St8_0,h304,idxR_O h306,h307,h355,h403,wh405,wh407,lookI,h408,wh419,wh421,h422,updI_O h424,updI_O h426] <;> rfl) (gc_over rfl rfl (by first | simp only [go_sem,seval,St8_0] | rfl) (by first | simp only [go_sem,seval,St8_0] | rfl))
      ·cases h
       exact stepO_out (by simp only [go_sem,seval,c8_0,St8_0,h304,idxR_O h306,h307,h355,h403,wh405,wh407,lookI,h408,wh419,wh421,h422,Ex8_0] <;> rfl)
    ·obtain ⟨v427,h428,h⟩:=obind_some h
     have wh428:callIso pr (X pr) 20 [.bool (decide (((a0.getD []).length:Int)≤(max v305.a v305.b))),.int .i64 10]=some (.int .i64 v427,false):=WE20 h428
     obtain ⟨v429,h430,h⟩:=obind_some h
     have wh430:callIso pr (X pr) 20 [.bool (decide (v305.a=s1000.2.2.1) && decide (v305.b=s1000.2.2.2)),.int .i64 11]=some (.int .i64 v429,false):=WE20 h430
     rcases cond_split h with ⟨h431,h⟩ | ⟨h431,h⟩
     ·obtain ⟨v432,h433,h⟩:=obind_some h
      have wh433:callIso pr (X pr) 20 [.bool true,.int .i64 9]=some (.int .i64 v432,false):=WE20 h433
      obtain ⟨v434,h435,h⟩:=obind_some h
      have wh435:callIso pr (X pr) 18 [.list false 1 [.int .i64 v427,.int .i64 v429,.int .i64 v432]]=some (.int .i64 v434,false):=WE18 h435
      rcases cond_split h with ⟨h436,h⟩ | ⟨h436,h⟩
      ·obtain ⟨v437,h438,h⟩:=obind_some h
       obtain ⟨v439,h440,h⟩:=obind_some h
       cases h
       exact stepO_in (st':=⟨[(0,sl 2 vunit a0,false),(1,sl 2 vpair a1,false),(7,.map 0,false),(8,.ptr 1 0,false),(36,sl 2 vpair a1,false),(37,.int .i64 ((a1.getD []).length:Int),false),(38,.int .i64 (wrapF .i64 (s1000.1 + 1)),false)],[.map (mapI v439),.cells [(.int .i64 v305.a,false),(.int .i64 v305.b,false)]]++[.cells [(.int .i64 v305.a,false),(.int .i64 v305.b,false)]]⟩) (by simp only [go_sem,seval,c8_0,St8_0,h304,idxR_O h306,h307,h355,h403,wh428,wh430,lookI,h431,wh433,wh435,h436,updI_O h438,updI_O h440] <;> rfl) (gc_over rfl rfl (by first | simp only [go_sem,seval,St8_0] | rfl) (by first | simp only [go_sem,seval,St8_0] | rfl))
      ·cases h
       exact stepO_out (by simp only [go_sem,seval,c8_0,St8_0,h304,idxR_O h306,h307,h355,h403,wh428,wh430,lookI,h431,wh433,wh435,h436,Ex8_0] <;> rfl)
     ·obtain ⟨v441,h442,h⟩:=obind_some h
      have wh442:callIso pr (X pr) 20 [.bool (memI s1000.2.1 v305.b),.int .i64 9]=some (.int .i64 v441,false):=WE20 h442
      obtain ⟨v443,h444,h⟩:=obind_some h
      have wh444:callIso pr (X pr) 18 [.list false 1 [.int .i64 v427,.int .i64 v429,.int .i64 v441]]=some (.int .i64 v443,false):=WE18 h444
      rcases cond_split h with ⟨h445,h⟩ | ⟨h445,h⟩
      ·obtain ⟨v446,h447,h⟩:=obind_some h
       obtain ⟨v448,h449,h⟩:=obind_some h
       cases h
       exact stepO_in (st':=⟨[(0,sl 2 vunit a0,false),(1,sl 2 vpair a1,false),(7,.map 0,false),(8,.ptr 1 0,false),(36,sl 2 vpair a1,false),(37,.int .i64 ((a1.getD []).length:Int),false),(38,.int .i64 (wrapF .i64 (s1000.1 + 1)),false)],[.map (mapI v448),.cells [(.int .i64 v305.a,false),(.int .i64 v305.b,false)]]++[.cells [(.int .i64 v305.a,false),(.int .i64 v305.b,false)]]⟩) (by simp only [go_sem,seval,c8_0,St8_0,h304,idxR_O h306,h307,h355,h403,wh428,wh430,lookI,h431,wh442,wh444,h445,updI_O h447,updI_O h449] <;> rfl) (gc_over rfl rfl (by first | simp only [go_sem,seval,St8_0] | rfl) (by first | simp only [go_sem,seval,St8_0] | rfl))
      ·cases h
       exact stepO_out (by simp only [go_sem,seval,c8_0,St8_0,h304,idxR_O h306,h307,h355,h403,wh428,wh430,lookI,h431,wh442,wh444,h445,Ex8_0] <;> rfl)
 ·cases h
  exact stepO_out (by simp only [go_sem,seval,c8_0,St8_0,h304,Ex8_0] <;> rfl)
theorem l8_0 (a0:Option (List GUnit)) (a1:Option (List GPair)) {s1000:Int × (List Int) × Int × Int} {d} (h:itO (s8_0 a0 a1) s1000=some d):X pr (.loop c8_0) (St8_0 a0 a1 s1000)=some (Ex8_0 a0 a1 d):=X_itO (b8_0 a0 a1) (fun d=>by rcases d with d|d <;> (intro hh; cases hh)) h
noncomputable def f8 (a0:Option (List GUnit)) (a1:Option (List GPair)):Option (Int × Int):=
 obind (E4 a0) fun v1=>
 obind (remO ((a0.getD []).length:Int) 2) fun v3=>
 obind (E58 (!decide (v3=0)) 35) fun v5=>
 obind (E58 (!decide ((wrapF .i64 (2 * ((a1.getD []).length:Int)))=((a0.getD []).length:Int))) 2) fun v7=>
 obind (E12 (some [v1,v5,v7])) fun v9=>
 cond (decide (v9=0))
  (obind (itO (s8_0 a0 a1) (0,[],(-1),(-1))) fun d450=>match d450 with
   | .inl d452=>
    some (0,d452.1)
   | .inr d453=>
    obind (f23 a0 a1) fun v454=>
    some (v454,0))
  (some (0,v9))
theorem W8 {a0:Option (List GUnit)} {a1:Option (List GPair)} {r} (h:f8 a0 a1=some r):callIso pr (X pr) 8 [sl 2 vunit a0,sl 2 vpair a1]=some (.tup [.int .i64 r.1,.int .i64 r.2],false):=by
 unfold f8 at h
 obtain ⟨v1,h2,h⟩:=obind_some h
 have wh2:callIso pr (X pr) 19 [sl 2 vunit a0]=some (.int .i64 v1,false):=WE19 h2
 obtain ⟨v3,h4,h⟩:=obind_some h
 obtain ⟨v5,h6,h⟩:=obind_some h
 have wh6:callIso pr (X pr) 20 [.bool (!decide (v3=0)),.int .i64 35]=some (.int .i64 v5,false):=WE20 h6
 obtain ⟨v7,h8,h⟩:=obind_some h
 have wh8:callIso pr (X pr) 20 [.bool (!decide ((wrapF .i64 (2 * ((a1.getD []).length:Int)))=((a0.getD []).length:Int))),.int .i64 2]=some (.int .i64 v7,false):=WE20 h8
 obtain ⟨v9,h10,h⟩:=obind_some h
 have wh10:callIso pr (X pr) 18 [.list false 1 [.int .i64 v1,.int .i64 v5,.int .i64 v7]]=some (.int .i64 v9,false):=WE18 h10
 rcases cond_split h with ⟨h11,h⟩ | ⟨h11,h⟩
 ·obtain ⟨d450,h451,h⟩:=obind_some h
  rcases d450 with d452 | d453
  ·have wh451:X pr (.loop c8_0) ⟨[(0,sl 2 vunit a0,false),(1,sl 2 vpair a1,false),(7,.map 0,false),(8,.ptr 1 0,false),(36,sl 2 vpair a1,false),(37,.int .i64 ((a1.getD []).length:Int),false),(38,.int .i64 0,false)],[.map (mapI []),.cells [(.int .i64 (-1),false),(.int .i64 (-1),false)]]⟩=some (.ret,⟨[(4,.int .i64 0,false),(5,.int .i64 d452.1,false)],[.map (mapI d452.2.1),.cells [(.int .i64 d452.2.2.1,false),(.int .i64 d452.2.2.2.1,false)],.cells [(.int .i64 d452.2.2.2.2.1,false),(.int .i64 d452.2.2.2.2.2,false)]]⟩):=l8_0 a0 a1 h451
   have hr:(0,d452.1)=r:=Option.some.inj h
   subst hr
   have this:∃ hh,callFn pr (X pr) 8 [sl 2 vunit a0,sl 2 vpair a1] []=some (.tup [.int .i64 0,.int .i64 d452.1],false,hh):=by
    rw [callFn_at (show pr.fns 8=some c8 from rfl) (by simp)]
    simp only [go_sem,seval,c8,wh2,b_rem_O h4,wh6,wh8,wh10,h11,mkmapI,wh451]
    exact ⟨_,rfl⟩
   obtain ⟨hh,this⟩:=this
   exact callIso_of rfl this (by first | rfl | simp only [go_sem,seval]) (by first | rfl | simp only [go_sem,seval])
  ·have wh451:X pr (.loop c8_0) ⟨[(0,sl 2 vunit a0,false),(1,sl 2 vpair a1,false),(7,.map 0,false),(8,.ptr 1 0,false),(36,sl 2 vpair a1,false),(37,.int .i64 ((a1.getD []).length:Int),false),(38,.int .i64 0,false)],[.map (mapI []),.cells [(.int .i64 (-1),false),(.int .i64 (-1),false)]]⟩=some (.exit 0,⟨[(0,sl 2 vunit a0,false),(1,sl 2 vpair a1,false),(7,.map 0,false),(8,.ptr 1 0,false),(36,sl 2 vpair a1,false),(37,.int .i64 ((a1.getD []).length:Int),false),(38,.int .i64 d453.1,false),(39,.bool false,false)],[.map (mapI d453.2.1),.cells [(.int .i64 d453.2.2.1,false),(.int .i64 d453.2.2.2,false)]]⟩):=l8_0 a0 a1 h451
   obtain ⟨v454,h455,h⟩:=obind_some h
   have wh455:callIso pr (X pr) 23 [sl 2 vunit a0,sl 2 vpair a1]=some (.int .i64 v454,false):=W23 h455
   have hr:(v454,0)=r:=Option.some.inj h
   subst hr
   have this:∃ hh,callFn pr (X pr) 8 [sl 2 vunit a0,sl 2 vpair a1] []=some (.tup [.int .i64 v454,.int .i64 0],false,hh):=by
    rw [callFn_at (show pr.fns 8=some c8 from rfl) (by simp)]
    simp only [go_sem,seval,c8,wh2,b_rem_O h4,wh6,wh8,wh10,h11,mkmapI,wh451,wh455]
    exact ⟨_,rfl⟩
   obtain ⟨hh,this⟩:=this
   exact callIso_of rfl this (by first | rfl | simp only [go_sem,seval]) (by first | rfl | simp only [go_sem,seval])
 ·have hr:(0,v9)=r:=Option.some.inj h
  subst hr
  have this:∃ hh,callFn pr (X pr) 8 [sl 2 vunit a0,sl 2 vpair a1] []=some (.tup [.int .i64 0,.int .i64 v9],false,hh):=by
   rw [callFn_at (show pr.fns 8=some c8 from rfl) (by simp)]
   simp only [go_sem,seval,c8,wh2,b_rem_O h4,wh6,wh8,wh10,h11]
   exact ⟨_,rfl⟩
  obtain ⟨hh,this⟩:=this
  exact callIso_of rfl this (by first | rfl | simp only [go_sem,seval]) (by first | rfl | simp only [go_sem,seval])
end Go.Z
