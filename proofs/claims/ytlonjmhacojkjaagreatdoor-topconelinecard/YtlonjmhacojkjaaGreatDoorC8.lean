/-
  What TopConeLine calls, as calls of the program with all in it.
-/
import Derived.Test.YtlonjmhacojkjaaGreatDoorZB
import Derived.Test.YtlonjmhacojkjaaGreatDoorN6
import Derived.Test.YtlonjmhacojkjaaGreatDoorC3
import Derived.Test.YtlonjmhacojkjaaGreatDoorR2
import Derived.Test.YtlonjmhacojkjaaGreatDoorH1
import Derived.Test.YtlonjmhacojkjaaGreatDoorN0
import Derived.Test.YtlonjmhacojkjaaGreatDoorR1
import Derived.Test.YtlonjmhacojkjaaGreatDoorL5
import Derived.Test.YtlonjmhacojkjaaGreatDoorG0m
set_option linter.unusedVariables false
set_option linter.unusedSimpArgs false
set_option maxRecDepth 100000
namespace Go.Z
open Go Go.Abs
theorem liftE {k:Nat} (hd:opD k=false) (hm:moreD k=none) (ho:opE k=false) {args:List AVal} {v:AVal} {o:Bool} (h:callIso pr (X pr) k args=some (v,o)) (hv:below 0 v=true):callIso prE (X prE) k args=some (v,o):=atE ho (atD hd hm h hv) hv
theorem bsl {n:Nat} {o:Option (List Int)}:Abs.below n (sl 1 vint o)=true:=below_sl fun _=>rfl
theorem Q5 {r} (h:E5=some r):callIso prE (X prE) 5 []=some (.bool r,false):=liftE rfl rfl rfl (WE5 h) rfl
theorem Q4 {a0:Option (List (Option (List Int)))} {r} (h:f4 a0=some r):callIso prE (X prE) 4 [sl 1 (sl 1 vint) a0]=some (.int .i64 r,false):=liftE rfl rfl rfl (W4 h) rfl
theorem Q6 {h:Option (List Int)} {n:Int} {r} (hr:E6a h n=some r):callIso prE (X prE) 6 [sl 1 vint h,.int .i64 n]=some (.tup [sl 1 vint r.1,sl 1 vint r.2.1,.int .i64 r.2.2],false):=liftE rfl rfl rfl (WE6a hr) (by simp only [below,belowL,bsl,Bool.and_true,Bool.and_self])
theorem Q7 {a b:Option (List Int)} {n:Int} {r} (hr:E7d a b n=some r):callIso prE (X prE) 7 [sl 1 vint a,sl 1 vint b,.int .i64 n]=some (.tup [sl 1 vint r.1,.int .i64 r.2],false):=liftE rfl rfl rfl (WE7d hr) (by simp only [below,belowL,bsl,Bool.and_true,Bool.and_self])
theorem Q8 {a b r} (h:E8 a b=some r):callIso prE (X prE) 8 [sl 1 vint a,sl 1 vint b]=some (.bool r,false):=liftE rfl rfl rfl (WE8 h) rfl
theorem Q9 {n:Int} {r} (h:f9 1 n=some r):callIso prE (X prE) 9 [.int .i64 n]=some (.str r,false):=liftE rfl rfl rfl (W9 1 h) rfl
theorem Q10 {a0:Option (List GUnit)} {r} (h:f10 a0=some r):callIso prE (X prE) 10 [sl 2 vunit a0]=some (.tup [.str r.1,.int .i64 r.2],false):=W10 h
theorem Q11 {s:List UInt8} {r} (h:f11 s=some r):callIso prE (X prE) 11 [.str s]=some (.tup [sl 2 vunit r.1,.int .i64 r.2.1,.int .i64 r.2.2],false):=atE rfl (W11 h) (by simp only [below,belowL,below_units,Bool.and_true,Bool.and_self])
theorem Q12 {o g r} (h:E12 o g=some r):callIso prE (X prE) 12 [sl 2 vunit o,.int .i64 g]=some (.tup [.agg [sl 1 vint r.1.least,sl 1 vint r.1.most],.int .i64 r.2],false):=liftE rfl rfl rfl (WE12 h) (by simp only [below,belowL,bsl,Bool.and_true,Bool.and_self])
theorem Q13 {m u r} (h:E13 m u=some r):callIso prE (X prE) 13 [.agg [sl 1 vint m.least,sl 1 vint m.most],.agg [.str u.serial,sl 1 vint u.values]]=some (.tup [sl 1 vint r.1,.int .i64 r.2],false):=liftE rfl rfl rfl (WE13 h) (by simp only [below,belowL,bsl,Bool.and_true,Bool.and_self])
theorem Q14 {a0:GUnit} {a1:GUnit} {r} (h:f14 a0 a1=some r):callIso prE (X prE) 14 [.agg [.str a0.serial,sl 1 vint a0.values],.agg [.str a1.serial,sl 1 vint a1.values]]=some (.tup [.int .i64 r.1,.int .i64 r.2],false):=liftE rfl rfl rfl (W14 h) rfl
theorem Q15 {a0:Option (List GUnit)} {r} (h:f15 a0=some r):callIso prE (X prE) 15 [sl 2 vunit a0]=some (.tup [sl 2 vpair r.1,.int .i64 r.2.1,.int .i64 r.2.2],false):=liftE rfl rfl rfl (W15 h) (by simp only [below,belowL,below_pairs,Bool.and_true,Bool.and_self])
theorem Q16 {a b r} (h:f16 a b=some r):callIso prE (X prE) 16 [sl 2 vpair a,sl 2 vpair b]=some (.bool r,false):=liftE rfl rfl rfl (W16 h) rfl
end Go.Z
/-
 TopConeLine: the law: functions that mirror the runs,and the runs (printed by walk.py).
-/
set_option maxHeartbeats 4000000
namespace Go.Z
open Go Go.Abs
noncomputable def s3_1 (a0:Option (List (Option (List Int)))) (a1:Int) (a2:Int) (s0:(Option (List GUnit)) × (Option (List GUnit)) × Int × Bool × Bool) (v137:Option (List Int)) (s1:Int):Option (Int ⊕ (Bool ⊕ Int)):=
 cond (decide (s1 < ((v137.getD []).length:Int)))
  (obind (idxO (v137.getD []) s1) fun v158=>
  cond (decide (100 < v158))
   (obind (E5) fun v161=>
   some (.inr (.inl v161)))
   (cond (decide (v158 < (-100)))
    (obind (E5) fun v164=>
    some (.inr (.inl v164)))
    (some (.inl (wrapF .i64 (s1 + 1))))))
  (some (.inr (.inr s1)))
def St3_1 (a0:Option (List (Option (List Int)))) (a1:Int) (a2:Int) (s0:(Option (List GUnit)) × (Option (List GUnit)) × Int × Bool × Bool) (v137:Option (List Int)) (s1:Int):ASt:=⟨[(0,sl 1 (sl 1 vint) a0,false),(1,.int .u8 a1,false),(2,.int .u8 a2,false),(7,sl 2 vunit s0.1,s0.2.2.2.1),(8,sl 2 vunit s0.2.1,s0.2.2.2.2),(9,.int .i64 s0.2.2.1,false),(10,sl 1 vint v137,false),(82,sl 1 (sl 1 vint) a0,false),(83,.int .i64 ((a0.getD []).length:Int),false),(84,.int .i64 s0.2.2.1,false),(89,sl 1 vint v137,false),(90,.int .i64 ((v137.getD []).length:Int),false),(91,.int .i64 s1,false)],[]⟩
def Ex3_1 (a0:Option (List (Option (List Int)))) (a1:Int) (a2:Int) (s0:(Option (List GUnit)) × (Option (List GUnit)) × Int × Bool × Bool) (v137:Option (List Int)):Bool ⊕ Int→AExit × ASt
 | .inl d=>(.ret,⟨[(6,.bool d,false)],[]⟩)
 | .inr d=>(.exit 2,⟨[(0,sl 1 (sl 1 vint) a0,false),(1,.int .u8 a1,false),(2,.int .u8 a2,false),(7,sl 2 vunit s0.1,s0.2.2.2.1),(8,sl 2 vunit s0.2.1,s0.2.2.2.2),(9,.int .i64 s0.2.2.1,false),(10,sl 1 vint v137,false),(82,sl 1 (sl 1 vint) a0,false),(83,.int .i64 ((a0.getD []).length:Int),false),(84,.int .i64 s0.2.2.1,false),(89,sl 1 vint v137,false),(90,.int .i64 ((v137.getD []).length:Int),false),(91,.int .i64 d,false),(92,.bool false,false)],[]⟩)
theorem b3_1 (a0:Option (List (Option (List Int)))) (a1:Int) (a2:Int) (s0:(Option (List GUnit)) × (Option (List GUnit)) × Int × Bool × Bool) (v137:Option (List Int)) (s1:Int) (r) (h:s3_1 a0 a1 a2 s0 v137 s1=some r):stepO prE c3_1 (St3_1 a0 a1 a2 s0 v137) (Ex3_1 a0 a1 a2 s0 v137) s1 r:=by
 unfold s3_1 at h
 rcases cond_split h with ⟨h157,h⟩ | ⟨h157,h⟩
 ·obtain ⟨v158,h159,h⟩:=obind_some h
  rcases cond_split h with ⟨h160,h⟩ | ⟨h160,h⟩
  ·obtain ⟨v161,h162,h⟩:=obind_some h
   have wh162:callIso prE (X prE) 5 []=some (.bool v161,false):=Q5 h162
   cases h
   exact stepO_out (by simp only [go_sem,seval,c3_1,St3_1,h157,idxR_O h159,h160,wh162,Ex3_1] <;> rfl)
  ·rcases cond_split h with ⟨h163,h⟩ | ⟨h163,h⟩
   ·obtain ⟨v164,h165,h⟩:=obind_some h
    have wh165:callIso prE (X prE) 5 []=some (.bool v164,false):=Q5 h165
    cases h
    exact stepO_out (by simp only [go_sem,seval,c3_1,St3_1,h157,idxR_O h159,h160,h163,wh165,Ex3_1] <;> rfl)
   ·cases h
    exact stepO_in (st':=⟨[(0,sl 1 (sl 1 vint) a0,false),(1,.int .u8 a1,false),(2,.int .u8 a2,false),(7,sl 2 vunit s0.1,s0.2.2.2.1),(8,sl 2 vunit s0.2.1,s0.2.2.2.2),(9,.int .i64 s0.2.2.1,false),(10,sl 1 vint v137,false),(82,sl 1 (sl 1 vint) a0,false),(83,.int .i64 ((a0.getD []).length:Int),false),(84,.int .i64 s0.2.2.1,false),(89,sl 1 vint v137,false),(90,.int .i64 ((v137.getD []).length:Int),false),(91,.int .i64 (wrapF .i64 (s1 + 1)),false)],[]⟩) (by simp only [go_sem,seval,c3_1,St3_1,h157,idxR_O h159,h160,h163] <;> rfl) (gc_same (Nat.le_refl _))
 ·cases h
  exact stepO_out (by simp only [go_sem,seval,c3_1,St3_1,h157,Ex3_1] <;> rfl)
theorem l3_1 (a0:Option (List (Option (List Int)))) (a1:Int) (a2:Int) (s0:(Option (List GUnit)) × (Option (List GUnit)) × Int × Bool × Bool) (v137:Option (List Int)) {s1:Int} {d} (h:itO (s3_1 a0 a1 a2 s0 v137) s1=some d):X prE (.loop c3_1) (St3_1 a0 a1 a2 s0 v137 s1)=some (Ex3_1 a0 a1 a2 s0 v137 d):=X_itO (b3_1 a0 a1 a2 s0 v137) (fun d=>by rcases d with d|d <;> (intro hh; cases hh)) h
noncomputable def s3_0 (a0:Option (List (Option (List Int)))) (a1:Int) (a2:Int) (s0:(Option (List GUnit)) × (Option (List GUnit)) × Int × Bool × Bool):Option (((Option (List GUnit)) × (Option (List GUnit)) × Int × Bool × Bool) ⊕ (Bool ⊕ ((Option (List GUnit)) × Bool × (Option (List GUnit)) × Bool × Int))):=
 cond (decide (s0.2.2.1 < ((a0.getD []).length:Int)))
  (obind (idxO (a0.getD []) s0.2.2.1) fun v137=>
  obind (itO (s3_1 a0 a1 a2 s0 v137) 0) fun d166=>match d166 with
   | .inl d168=>
    some (.inr (.inl d168))
   | .inr d169=>
    obind (remO (wrapF .i64 ((wrapF .i64 a2) + s0.2.2.1)) 7) fun v170=>
    obind (shlO .i64 1 v170) fun v172=>
    obind (apO (some []) (v137.getD [])) fun v174=>
    obind (E6a v174 v172) fun v176=>
    obind (E7d v176.1 v176.2.1 v172) fun v178=>
    cond (decide (v176.2.2=0))
     (cond (decide (v178.2=0))
      (obind (E8 v178.1 v137) fun v182=>
      cond v182
       (obind (f9 1 s0.2.2.1) fun v185=>
       obind (catO ([117]:List UInt8) v185) fun v187=>
       cond s0.2.2.2.1
        (obind (apO s0.1 [⟨v187,v174⟩]) fun v190=>
        cond s0.2.2.2.2
         (obind (apO s0.2.1 [⟨v187,v178.1⟩]) fun v193=>
         some (.inl (v190,v193,wrapF .i64 (s0.2.2.1 + 1),true,true)))
         (cond s0.2.1.isNone
          (obind (apO s0.2.1 [⟨v187,v178.1⟩]) fun v196=>
          some (.inl (v190,v196,wrapF .i64 (s0.2.2.1 + 1),true,true)))
          (none)))
        (cond s0.1.isNone
         (obind (apO s0.1 [⟨v187,v174⟩]) fun v199=>
         cond s0.2.2.2.2
          (obind (apO s0.2.1 [⟨v187,v178.1⟩]) fun v202=>
          some (.inl (v199,v202,wrapF .i64 (s0.2.2.1 + 1),true,true)))
          (cond s0.2.1.isNone
           (obind (apO s0.2.1 [⟨v187,v178.1⟩]) fun v205=>
           some (.inl (v199,v205,wrapF .i64 (s0.2.2.1 + 1),true,true)))
           (none)))
         (none)))
       (some (.inr (.inl false))))
      (some (.inr (.inl false))))
     (some (.inr (.inl false))))
  (some (.inr (.inr (s0.1,s0.2.2.2.1,s0.2.1,s0.2.2.2.2,s0.2.2.1))))
def St3_0 (a0:Option (List (Option (List Int)))) (a1:Int) (a2:Int) (s0:(Option (List GUnit)) × (Option (List GUnit)) × Int × Bool × Bool):ASt:=⟨[(0,sl 1 (sl 1 vint) a0,false),(1,.int .u8 a1,false),(2,.int .u8 a2,false),(7,sl 2 vunit s0.1,s0.2.2.2.1),(8,sl 2 vunit s0.2.1,s0.2.2.2.2),(82,sl 1 (sl 1 vint) a0,false),(83,.int .i64 ((a0.getD []).length:Int),false),(84,.int .i64 s0.2.2.1,false)],[]⟩
def Ex3_0 (a0:Option (List (Option (List Int)))) (a1:Int) (a2:Int):Bool ⊕ ((Option (List GUnit)) × Bool × (Option (List GUnit)) × Bool × Int)→AExit × ASt
 | .inl d=>(.ret,⟨[(6,.bool d,false)],[]⟩)
 | .inr d=>(.exit 0,⟨[(0,sl 1 (sl 1 vint) a0,false),(1,.int .u8 a1,false),(2,.int .u8 a2,false),(7,sl 2 vunit d.1,d.2.1),(8,sl 2 vunit d.2.2.1,d.2.2.2.1),(82,sl 1 (sl 1 vint) a0,false),(83,.int .i64 ((a0.getD []).length:Int),false),(84,.int .i64 d.2.2.2.2,false),(85,.bool false,false)],[]⟩)
theorem b3_0 (a0:Option (List (Option (List Int)))) (a1:Int) (a2:Int) (s0:(Option (List GUnit)) × (Option (List GUnit)) × Int × Bool × Bool) (r) (h:s3_0 a0 a1 a2 s0=some r):stepO prE c3_0 (St3_0 a0 a1 a2) (Ex3_0 a0 a1 a2) s0 r:=by
 unfold s3_0 at h
 rcases cond_split h with ⟨h136,h⟩ | ⟨h136,h⟩
 ·obtain ⟨v137,h138,h⟩:=obind_some h
  obtain ⟨d166,h167,h⟩:=obind_some h
  rcases d166 with d168 | d169
  ·have wh167:X prE (.loop c3_1) ⟨[(0,sl 1 (sl 1 vint) a0,false),(1,.int .u8 a1,false),(2,.int .u8 a2,false),(7,sl 2 vunit s0.1,s0.2.2.2.1),(8,sl 2 vunit s0.2.1,s0.2.2.2.2),(9,.int .i64 s0.2.2.1,false),(10,sl 1 vint v137,false),(82,sl 1 (sl 1 vint) a0,false),(83,.int .i64 ((a0.getD []).length:Int),false),(84,.int .i64 s0.2.2.1,false),(89,sl 1 vint v137,false),(90,.int .i64 ((v137.getD []).length:Int),false),(91,.int .i64 0,false)],[]⟩=some (.ret,⟨[(6,.bool d168,false)],[]⟩):=l3_1 a0 a1 a2 s0 v137 h167
   cases h
   exact stepO_out (by simp only [go_sem,seval,c3_0,St3_0,h136,idxR_O h138,wh167,Ex3_0] <;> rfl)
  ·have wh167:X prE (.loop c3_1) ⟨[(0,sl 1 (sl 1 vint) a0,false),(1,.int .u8 a1,false),(2,.int .u8 a2,false),(7,sl 2 vunit s0.1,s0.2.2.2.1),(8,sl 2 vunit s0.2.1,s0.2.2.2.2),(9,.int .i64 s0.2.2.1,false),(10,sl 1 vint v137,false),(82,sl 1 (sl 1 vint) a0,false),(83,.int .i64 ((a0.getD []).length:Int),false),(84,.int .i64 s0.2.2.1,false),(89,sl 1 vint v137,false),(90,.int .i64 ((v137.getD []).length:Int),false),(91,.int .i64 0,false)],[]⟩=some (.exit 2,⟨[(0,sl 1 (sl 1 vint) a0,false),(1,.int .u8 a1,false),(2,.int .u8 a2,false),(7,sl 2 vunit s0.1,s0.2.2.2.1),(8,sl 2 vunit s0.2.1,s0.2.2.2.2),(9,.int .i64 s0.2.2.1,false),(10,sl 1 vint v137,false),(82,sl 1 (sl 1 vint) a0,false),(83,.int .i64 ((a0.getD []).length:Int),false),(84,.int .i64 s0.2.2.1,false),(89,sl 1 vint v137,false),(90,.int .i64 ((v137.getD []).length:Int),false),(91,.int .i64 d169,false),(92,.bool false,false)],[]⟩):=l3_1 a0 a1 a2 s0 v137 h167
   obtain ⟨v170,h171,h⟩:=obind_some h
   obtain ⟨v172,h173,h⟩:=obind_some h
   obtain ⟨v174,h175,h⟩:=obind_some h
   obtain ⟨v176,h177,h⟩:=obind_some h
   have wh177:callIso prE (X prE) 6 [sl 1 vint v174,.int .i64 v172]=some (.tup [sl 1 vint v176.1,sl 1 vint v176.2.1,.int .i64 v176.2.2],false):=Q6 h177
   obtain ⟨v178,h179,h⟩:=obind_some h
   have wh179:callIso prE (X prE) 7 [sl 1 vint v176.1,sl 1 vint v176.2.1,.int .i64 v172]=some (.tup [sl 1 vint v178.1,.int .i64 v178.2],false):=Q7 h179
   rcases cond_split h with ⟨h180,h⟩ | ⟨h180,h⟩
   ·try simp only [h180] at wh167
    rcases cond_split h with ⟨h181,h⟩ | ⟨h181,h⟩
    ·try simp only [h181] at wh167
     obtain ⟨v182,h183,h⟩:=obind_some h
     have wh183:callIso prE (X prE) 8 [sl 1 vint v178.1,sl 1 vint v137]=some (.bool v182,false):=Q8 h183
     rcases cond_split h with ⟨h184,h⟩ | ⟨h184,h⟩
     ·try simp only [h184] at wh167
      obtain ⟨v185,h186,h⟩:=obind_some h
      have wh186:callIso prE (X prE) 9 [.int .i64 s0.2.2.1]=some (.str v185,false):=Q9 h186
      obtain ⟨v187,h188,h⟩:=obind_some h
      rcases cond_split h with ⟨h189,h⟩ | ⟨h189,h⟩
      ·try simp only [h189] at wh167
       obtain ⟨v190,h191,h⟩:=obind_some h
       rcases cond_split h with ⟨h192,h⟩ | ⟨h192,h⟩
       ·try simp only [h192] at wh167
        obtain ⟨v193,h194,h⟩:=obind_some h
        cases h
        exact stepO_in (st':=⟨[(0,sl 1 (sl 1 vint) a0,false),(1,.int .u8 a1,false),(2,.int .u8 a2,false),(7,sl 2 vunit v190,true),(8,sl 2 vunit v193,true),(82,sl 1 (sl 1 vint) a0,false),(83,.int .i64 ((a0.getD []).length:Int),false),(84,.int .i64 (wrapF .i64 (s0.2.2.1 + 1)),false)],[]⟩) (by simp only [go_sem,seval,c3_0,St3_0,h136,idxR_O h138,wh167,b_rem_O h171,b_shl_O h173,app_lit_O h175,wh177,wh179,h180,h181,wh183,h184,wh186,b_cat_O h188,h189,app_vunit_O h191,h192,app_vunit_O h194] <;> rfl) (gc_same (Nat.le_refl _))
       ·try simp only [h192] at wh167
        rcases cond_split h with ⟨h195,h⟩ | ⟨h195,h⟩
        ·try simp only [h195] at wh167
         obtain ⟨v196,h197,h⟩:=obind_some h
         cases h
         exact stepO_in (st':=⟨[(0,sl 1 (sl 1 vint) a0,false),(1,.int .u8 a1,false),(2,.int .u8 a2,false),(7,sl 2 vunit v190,true),(8,sl 2 vunit v196,true),(82,sl 1 (sl 1 vint) a0,false),(83,.int .i64 ((a0.getD []).length:Int),false),(84,.int .i64 (wrapF .i64 (s0.2.2.1 + 1)),false)],[]⟩) (by simp only [go_sem,seval,c3_0,St3_0,h136,idxR_O h138,wh167,b_rem_O h171,b_shl_O h173,app_lit_O h175,wh177,wh179,h180,h181,wh183,h184,wh186,b_cat_O h188,h189,app_vunit_O h191,h192,h195,app_vunit_N h197 h195] <;> rfl) (gc_same (Nat.le_refl _))
        ·try simp only [h195] at wh167
         cases h
      ·try simp only [h189] at wh167
       rcases cond_split h with ⟨h198,h⟩ | ⟨h198,h⟩
       ·try simp only [h198] at wh167
        obtain ⟨v199,h200,h⟩:=obind_some h
        rcases cond_split h with ⟨h201,h⟩ | ⟨h201,h⟩
        ·try simp only [h201] at wh167
         obtain ⟨v202,h203,h⟩:=obind_some h
         cases h
         exact stepO_in (st':=⟨[(0,sl 1 (sl 1 vint) a0,false),(1,.int .u8 a1,false),(2,.int .u8 a2,false),(7,sl 2 vunit v199,true),(8,sl 2 vunit v202,true),(82,sl 1 (sl 1 vint) a0,false),(83,.int .i64 ((a0.getD []).length:Int),false),(84,.int .i64 (wrapF .i64 (s0.2.2.1 + 1)),false)],[]⟩) (by simp only [go_sem,seval,c3_0,St3_0,h136,idxR_O h138,wh167,b_rem_O h171,b_shl_O h173,app_lit_O h175,wh177,wh179,h180,h181,wh183,h184,wh186,b_cat_O h188,h189,h198,app_vunit_N h200 h198,h201,app_vunit_O h203] <;> rfl) (gc_same (Nat.le_refl _))
        ·try simp only [h201] at wh167
         rcases cond_split h with ⟨h204,h⟩ | ⟨h204,h⟩
         ·try simp only [h204] at wh167
          obtain ⟨v205,h206,h⟩:=obind_some h
          cases h
          exact stepO_in (st':=⟨[(0,sl 1 (sl 1 vint) a0,false),(1,.int .u8 a1,false),(2,.int .u8 a2,false),(7,sl 2 vunit v199,true),(8,sl 2 vunit v205,true),(82,sl 1 (sl 1 vint) a0,false),(83,.int .i64 ((a0.getD []).length:Int),false),(84,.int .i64 (wrapF .i64 (s0.2.2.1 + 1)),false)],[]⟩) (by simp only [go_sem,seval,c3_0,St3_0,h136,idxR_O h138,wh167,b_rem_O h171,b_shl_O h173,app_lit_O h175,wh177,wh179,h180,h181,wh183,h184,wh186,b_cat_O h188,h189,h198,app_vunit_N h200 h198,h201,h204,app_vunit_N h206 h204] <;> rfl) (gc_same (Nat.le_refl _))
         ·try simp only [h204] at wh167
          cases h
       ·try simp only [h198] at wh167
        cases h
     ·try simp only [h184] at wh167
      cases h
      exact stepO_out (by simp only [go_sem,seval,c3_0,St3_0,h136,idxR_O h138,wh167,b_rem_O h171,b_shl_O h173,app_lit_O h175,wh177,wh179,h180,h181,wh183,h184,Ex3_0] <;> rfl)
    ·try simp only [h181] at wh167
     cases h
     exact stepO_out (by simp only [go_sem,seval,c3_0,St3_0,h136,idxR_O h138,wh167,b_rem_O h171,b_shl_O h173,app_lit_O h175,wh177,wh179,h180,h181,Ex3_0] <;> rfl)
   ·try simp only [h180] at wh167
    cases h
    exact stepO_out (by simp only [go_sem,seval,c3_0,St3_0,h136,idxR_O h138,wh167,b_rem_O h171,b_shl_O h173,app_lit_O h175,wh177,wh179,h180,Ex3_0] <;> rfl)
 ·cases h
  exact stepO_out (by simp only [go_sem,seval,c3_0,St3_0,h136,Ex3_0] <;> rfl)
theorem l3_0 (a0:Option (List (Option (List Int)))) (a1:Int) (a2:Int) {s0:(Option (List GUnit)) × (Option (List GUnit)) × Int × Bool × Bool} {d} (h:itO (s3_0 a0 a1 a2) s0=some d):X prE (.loop c3_0) (St3_0 a0 a1 a2 s0)=some (Ex3_0 a0 a1 a2 d):=X_itO (b3_0 a0 a1 a2) (fun d=>by rcases d with d|d <;> (intro hh; cases hh)) h
noncomputable def s3_3 (a0:Option (List (Option (List Int)))) (p7:Option (List GUnit)) (o7:Bool) (p22:Option (List GUnit)) (p25:Int) (q0_0:Option (List Int)) (q0_1:Option (List Int)) (s2:Int) (v766:GUnit) (v772:(Option (List Int)) × Int) (v777:Option (List Int)) (s3:(Option (List Int)) × Int × Bool):Option (((Option (List Int)) × Int × Bool) ⊕ (((Option (List Int)) × Bool × Int))):=
 cond (decide (s3.2.1 < ((v777.getD []).length:Int)))
  (obind (idxO (v777.getD []) s3.2.1) fun v810=>
  obind (idxO (q0_0.getD []) s3.2.1) fun v812=>
  cond (decide (v810 < v812))
   (cond s3.2.2
    (obind (apO s3.1 [s3.2.1]) fun v816=>
    some (.inl (v816,wrapF .i64 (s3.2.1 + 1),true)))
    (cond s3.1.isNone
     (obind (apO s3.1 [s3.2.1]) fun v819=>
     some (.inl (v819,wrapF .i64 (s3.2.1 + 1),true)))
     (none)))
   (obind (idxO (q0_1.getD []) s3.2.1) fun v821=>
   cond (decide (v821 < v810))
    (cond s3.2.2
     (obind (apO s3.1 [s3.2.1]) fun v825=>
     some (.inl (v825,wrapF .i64 (s3.2.1 + 1),true)))
     (cond s3.1.isNone
      (obind (apO s3.1 [s3.2.1]) fun v828=>
      some (.inl (v828,wrapF .i64 (s3.2.1 + 1),true)))
      (none)))
    (some (.inl (s3.1,wrapF .i64 (s3.2.1 + 1),s3.2.2)))))
  (some (.inr (s3.1,s3.2.2,s3.2.1)))
def St3_3 (a0:Option (List (Option (List Int)))) (p7:Option (List GUnit)) (o7:Bool) (p22:Option (List GUnit)) (p25:Int) (q0_0:Option (List Int)) (q0_1:Option (List Int)) (s2:Int) (v766:GUnit) (v772:(Option (List Int)) × Int) (v777:Option (List Int)) (s3:(Option (List Int)) × Int × Bool):ASt:=⟨[(0,sl 1 (sl 1 vint) a0,false),(7,sl 2 vunit p7,o7),(22,sl 2 vunit p22,false),(25,.int .i64 p25,false),(26,.ptr 0 0,false),(28,.int .i64 s2,false),(29,.ptr 1 0,false),(30,sl 1 vint v772.1,false),(32,sl 1 vint s3.1,s3.2.2),(218,sl 2 vunit p22,false),(219,.int .i64 ((p22.getD []).length:Int),false),(220,.int .i64 s2,false),(254,sl 1 vint v777,false),(255,.int .i64 ((v777.getD []).length:Int),false),(256,.int .i64 s3.2.1,false)],[.cells [(sl 1 vint q0_0,false),(sl 1 vint q0_1,false)],.cells [(.str v766.serial,false),(sl 1 vint v766.values,false)]]⟩
def Ex3_3 (a0:Option (List (Option (List Int)))) (p7:Option (List GUnit)) (o7:Bool) (p22:Option (List GUnit)) (p25:Int) (q0_0:Option (List Int)) (q0_1:Option (List Int)) (s2:Int) (v766:GUnit) (v772:(Option (List Int)) × Int) (v777:Option (List Int)) (d:((Option (List Int)) × Bool × Int)):AExit × ASt:=(.exit 6,⟨[(0,sl 1 (sl 1 vint) a0,false),(7,sl 2 vunit p7,o7),(22,sl 2 vunit p22,false),(25,.int .i64 p25,false),(26,.ptr 0 0,false),(28,.int .i64 s2,false),(29,.ptr 1 0,false),(30,sl 1 vint v772.1,false),(32,sl 1 vint d.1,d.2.1),(218,sl 2 vunit p22,false),(219,.int .i64 ((p22.getD []).length:Int),false),(220,.int .i64 s2,false),(254,sl 1 vint v777,false),(255,.int .i64 ((v777.getD []).length:Int),false),(256,.int .i64 d.2.2,false),(257,.bool false,false)],[.cells [(sl 1 vint q0_0,false),(sl 1 vint q0_1,false)],.cells [(.str v766.serial,false),(sl 1 vint v766.values,false)]]⟩)
theorem b3_3 (a0:Option (List (Option (List Int)))) (p7:Option (List GUnit)) (o7:Bool) (p22:Option (List GUnit)) (p25:Int) (q0_0:Option (List Int)) (q0_1:Option (List Int)) (s2:Int) (v766:GUnit) (v772:(Option (List Int)) × Int) (v777:Option (List Int)) (s3:(Option (List Int)) × Int × Bool) (r) (h:s3_3 a0 p7 o7 p22 p25 q0_0 q0_1 s2 v766 v772 v777 s3=some r):stepO prE c3_3 (St3_3 a0 p7 o7 p22 p25 q0_0 q0_1 s2 v766 v772 v777) (Ex3_3 a0 p7 o7 p22 p25 q0_0 q0_1 s2 v766 v772 v777) s3 r:=by
 unfold s3_3 at h
 rcases cond_split h with ⟨h809,h⟩ | ⟨h809,h⟩
 ·obtain ⟨v810,h811,h⟩:=obind_some h
  obtain ⟨v812,h813,h⟩:=obind_some h
  rcases cond_split h with ⟨h814,h⟩ | ⟨h814,h⟩
  ·rcases cond_split h with ⟨h815,h⟩ | ⟨h815,h⟩
   ·obtain ⟨v816,h817,h⟩:=obind_some h
    cases h
    exact stepO_in (st':=⟨[(0,sl 1 (sl 1 vint) a0,false),(7,sl 2 vunit p7,o7),(22,sl 2 vunit p22,false),(25,.int .i64 p25,false),(26,.ptr 0 0,false),(28,.int .i64 s2,false),(29,.ptr 1 0,false),(30,sl 1 vint v772.1,false),(32,sl 1 vint v816,true),(218,sl 2 vunit p22,false),(219,.int .i64 ((p22.getD []).length:Int),false),(220,.int .i64 s2,false),(254,sl 1 vint v777,false),(255,.int .i64 ((v777.getD []).length:Int),false),(256,.int .i64 (wrapF .i64 (s3.2.1 + 1)),false)],[.cells [(sl 1 vint q0_0,false),(sl 1 vint q0_1,false)],.cells [(.str v766.serial,false),(sl 1 vint v766.values,false)]]⟩) (by simp only [go_sem,seval,c3_3,St3_3,h809,idxR_O h811,idxR_O h813,h814,h815,app_vint_O h817] <;> rfl) (gc_same (Nat.le_refl _))
   ·rcases cond_split h with ⟨h818,h⟩ | ⟨h818,h⟩
    ·obtain ⟨v819,h820,h⟩:=obind_some h
     cases h
     exact stepO_in (st':=⟨[(0,sl 1 (sl 1 vint) a0,false),(7,sl 2 vunit p7,o7),(22,sl 2 vunit p22,false),(25,.int .i64 p25,false),(26,.ptr 0 0,false),(28,.int .i64 s2,false),(29,.ptr 1 0,false),(30,sl 1 vint v772.1,false),(32,sl 1 vint v819,true),(218,sl 2 vunit p22,false),(219,.int .i64 ((p22.getD []).length:Int),false),(220,.int .i64 s2,false),(254,sl 1 vint v777,false),(255,.int .i64 ((v777.getD []).length:Int),false),(256,.int .i64 (wrapF .i64 (s3.2.1 + 1)),false)],[.cells [(sl 1 vint q0_0,false),(sl 1 vint q0_1,false)],.cells [(.str v766.serial,false),(sl 1 vint v766.values,false)]]⟩) (by simp only [go_sem,seval,c3_3,St3_3,h809,idxR_O h811,idxR_O h813,h814,h815,h818,app_vint_N h820 h818] <;> rfl) (gc_same (Nat.le_refl _))
    ·cases h
  ·obtain ⟨v821,h822,h⟩:=obind_some h
   rcases cond_split h with ⟨h823,h⟩ | ⟨h823,h⟩
   ·rcases cond_split h with ⟨h824,h⟩ | ⟨h824,h⟩
    ·obtain ⟨v825,h826,h⟩:=obind_some h
     cases h
     exact stepO_in (st':=⟨[(0,sl 1 (sl 1 vint) a0,false),(7,sl 2 vunit p7,o7),(22,sl 2 vunit p22,false),(25,.int .i64 p25,false),(26,.ptr 0 0,false),(28,.int .i64 s2,false),(29,.ptr 1 0,false),(30,sl 1 vint v772.1,false),(32,sl 1 vint v825,true),(218,sl 2 vunit p22,false),(219,.int .i64 ((p22.getD []).length:Int),false),(220,.int .i64 s2,false),(254,sl 1 vint v777,false),(255,.int .i64 ((v777.getD []).length:Int),false),(256,.int .i64 (wrapF .i64 (s3.2.1 + 1)),false)],[.cells [(sl 1 vint q0_0,false),(sl 1 vint q0_1,false)],.cells [(.str v766.serial,false),(sl 1 vint v766.values,false)]]⟩) (by simp only [go_sem,seval,c3_3,St3_3,h809,idxR_O h811,idxR_O h813,h814,idxR_O h822,h823,h824,app_vint_O h826] <;> rfl) (gc_same (Nat.le_refl _))
    ·rcases cond_split h with ⟨h827,h⟩ | ⟨h827,h⟩
     ·obtain ⟨v828,h829,h⟩:=obind_some h
      cases h
      exact stepO_in (st':=⟨[(0,sl 1 (sl 1 vint) a0,false),(7,sl 2 vunit p7,o7),(22,sl 2 vunit p22,false),(25,.int .i64 p25,false),(26,.ptr 0 0,false),(28,.int .i64 s2,false),(29,.ptr 1 0,false),(30,sl 1 vint v772.1,false),(32,sl 1 vint v828,true),(218,sl 2 vunit p22,false),(219,.int .i64 ((p22.getD []).length:Int),false),(220,.int .i64 s2,false),(254,sl 1 vint v777,false),(255,.int .i64 ((v777.getD []).length:Int),false),(256,.int .i64 (wrapF .i64 (s3.2.1 + 1)),false)],[.cells [(sl 1 vint q0_0,false),(sl 1 vint q0_1,false)],.cells [(.str v766.serial,false),(sl 1 vint v766.values,false)]]⟩) (by simp only [go_sem,seval,c3_3,St3_3,h809,idxR_O h811,idxR_O h813,h814,idxR_O h822,h823,h824,h827,app_vint_N h829 h827] <;> rfl) (gc_same (Nat.le_refl _))
     ·cases h
   ·cases h
    exact stepO_in (st':=⟨[(0,sl 1 (sl 1 vint) a0,false),(7,sl 2 vunit p7,o7),(22,sl 2 vunit p22,false),(25,.int .i64 p25,false),(26,.ptr 0 0,false),(28,.int .i64 s2,false),(29,.ptr 1 0,false),(30,sl 1 vint v772.1,false),(32,sl 1 vint s3.1,s3.2.2),(218,sl 2 vunit p22,false),(219,.int .i64 ((p22.getD []).length:Int),false),(220,.int .i64 s2,false),(254,sl 1 vint v777,false),(255,.int .i64 ((v777.getD []).length:Int),false),(256,.int .i64 (wrapF .i64 (s3.2.1 + 1)),false)],[.cells [(sl 1 vint q0_0,false),(sl 1 vint q0_1,false)],.cells [(.str v766.serial,false),(sl 1 vint v766.values,false)]]⟩) (by simp only [go_sem,seval,c3_3,St3_3,h809,idxR_O h811,idxR_O h813,h814,idxR_O h822,h823] <;> rfl) (gc_same (Nat.le_refl _))
 ·cases h
  exact stepO_out (by simp only [go_sem,seval,c3_3,St3_3,h809,Ex3_3] <;> rfl)
theorem l3_3 (a0:Option (List (Option (List Int)))) (p7:Option (List GUnit)) (o7:Bool) (p22:Option (List GUnit)) (p25:Int) (q0_0:Option (List Int)) (q0_1:Option (List Int)) (s2:Int) (v766:GUnit) (v772:(Option (List Int)) × Int) (v777:Option (List Int)) {s3:(Option (List Int)) × Int × Bool} {d} (h:itO (s3_3 a0 p7 o7 p22 p25 q0_0 q0_1 s2 v766 v772 v777) s3=some d):X prE (.loop c3_3) (St3_3 a0 p7 o7 p22 p25 q0_0 q0_1 s2 v766 v772 v777 s3)=some (Ex3_3 a0 p7 o7 p22 p25 q0_0 q0_1 s2 v766 v772 v777 d):=X_itO (b3_3 a0 p7 o7 p22 p25 q0_0 q0_1 s2 v766 v772 v777) (fun d hh=>by cases hh) h
noncomputable def s3_4 (a0:Option (List (Option (List Int)))) (p7:Option (List GUnit)) (o7:Bool) (p22:Option (List GUnit)) (p25:Int) (q0_0:Option (List Int)) (q0_1:Option (List Int)) (s2:Int) (v766:GUnit) (v777:Option (List Int)) (s4:(Option (List Int)) × Int × Bool):Option (((Option (List Int)) × Int × Bool) ⊕ (((Option (List Int)) × Bool × Int))):=
 cond (decide (s4.2.1 < ((v777.getD []).length:Int)))
  (obind (idxO (v777.getD []) s4.2.1) fun v856=>
  obind (idxO (a0.getD []) 0) fun v858=>
  obind (idxO (v858.getD []) s4.2.1) fun v860=>
  cond s4.2.2
   (obind (apO s4.1 [wrapF .i64 (v856 - v860)]) fun v863=>
   some (.inl (v863,wrapF .i64 (s4.2.1 + 1),true)))
   (cond s4.1.isNone
    (obind (apO s4.1 [wrapF .i64 (v856 - v860)]) fun v866=>
    some (.inl (v866,wrapF .i64 (s4.2.1 + 1),true)))
    (none)))
  (some (.inr (s4.1,s4.2.2,s4.2.1)))
def St3_4 (a0:Option (List (Option (List Int)))) (p7:Option (List GUnit)) (o7:Bool) (p22:Option (List GUnit)) (p25:Int) (q0_0:Option (List Int)) (q0_1:Option (List Int)) (s2:Int) (v766:GUnit) (v777:Option (List Int)) (s4:(Option (List Int)) × Int × Bool):ASt:=⟨[(0,sl 1 (sl 1 vint) a0,false),(7,sl 2 vunit p7,o7),(22,sl 2 vunit p22,false),(25,.int .i64 p25,false),(26,.ptr 0 0,false),(29,.ptr 1 0,false),(35,sl 1 vint s4.1,s4.2.2),(218,sl 2 vunit p22,false),(219,.int .i64 ((p22.getD []).length:Int),false),(220,.int .i64 s2,false),(289,sl 1 vint v777,false),(290,.int .i64 ((v777.getD []).length:Int),false),(291,.int .i64 s4.2.1,false)],[.cells [(sl 1 vint q0_0,false),(sl 1 vint q0_1,false)],.cells [(.str v766.serial,false),(sl 1 vint v766.values,false)]]⟩
def Ex3_4 (a0:Option (List (Option (List Int)))) (p7:Option (List GUnit)) (o7:Bool) (p22:Option (List GUnit)) (p25:Int) (q0_0:Option (List Int)) (q0_1:Option (List Int)) (s2:Int) (v766:GUnit) (v777:Option (List Int)) (d:((Option (List Int)) × Bool × Int)):AExit × ASt:=(.exit 8,⟨[(0,sl 1 (sl 1 vint) a0,false),(7,sl 2 vunit p7,o7),(22,sl 2 vunit p22,false),(25,.int .i64 p25,false),(26,.ptr 0 0,false),(29,.ptr 1 0,false),(35,sl 1 vint d.1,d.2.1),(218,sl 2 vunit p22,false),(219,.int .i64 ((p22.getD []).length:Int),false),(220,.int .i64 s2,false),(289,sl 1 vint v777,false),(290,.int .i64 ((v777.getD []).length:Int),false),(291,.int .i64 d.2.2,false),(292,.bool false,false)],[.cells [(sl 1 vint q0_0,false),(sl 1 vint q0_1,false)],.cells [(.str v766.serial,false),(sl 1 vint v766.values,false)]]⟩)
theorem b3_4 (a0:Option (List (Option (List Int)))) (p7:Option (List GUnit)) (o7:Bool) (p22:Option (List GUnit)) (p25:Int) (q0_0:Option (List Int)) (q0_1:Option (List Int)) (s2:Int) (v766:GUnit) (v777:Option (List Int)) (s4:(Option (List Int)) × Int × Bool) (r) (h:s3_4 a0 p7 o7 p22 p25 q0_0 q0_1 s2 v766 v777 s4=some r):stepO prE c3_4 (St3_4 a0 p7 o7 p22 p25 q0_0 q0_1 s2 v766 v777) (Ex3_4 a0 p7 o7 p22 p25 q0_0 q0_1 s2 v766 v777) s4 r:=by
 unfold s3_4 at h
 rcases cond_split h with ⟨h855,h⟩ | ⟨h855,h⟩
 ·obtain ⟨v856,h857,h⟩:=obind_some h
  obtain ⟨v858,h859,h⟩:=obind_some h
  obtain ⟨v860,h861,h⟩:=obind_some h
  rcases cond_split h with ⟨h862,h⟩ | ⟨h862,h⟩
  ·obtain ⟨v863,h864,h⟩:=obind_some h
   cases h
   exact stepO_in (st':=⟨[(0,sl 1 (sl 1 vint) a0,false),(7,sl 2 vunit p7,o7),(22,sl 2 vunit p22,false),(25,.int .i64 p25,false),(26,.ptr 0 0,false),(29,.ptr 1 0,false),(35,sl 1 vint v863,true),(218,sl 2 vunit p22,false),(219,.int .i64 ((p22.getD []).length:Int),false),(220,.int .i64 s2,false),(289,sl 1 vint v777,false),(290,.int .i64 ((v777.getD []).length:Int),false),(291,.int .i64 (wrapF .i64 (s4.2.1 + 1)),false)],[.cells [(sl 1 vint q0_0,false),(sl 1 vint q0_1,false)],.cells [(.str v766.serial,false),(sl 1 vint v766.values,false)]]⟩) (by simp only [go_sem,seval,c3_4,St3_4,h855,idxR_O h857,idxR_O h859,idxR_O h861,h862,app_vint_O h864] <;> rfl) (gc_same (Nat.le_refl _))
  ·rcases cond_split h with ⟨h865,h⟩ | ⟨h865,h⟩
   ·obtain ⟨v866,h867,h⟩:=obind_some h
    cases h
    exact stepO_in (st':=⟨[(0,sl 1 (sl 1 vint) a0,false),(7,sl 2 vunit p7,o7),(22,sl 2 vunit p22,false),(25,.int .i64 p25,false),(26,.ptr 0 0,false),(29,.ptr 1 0,false),(35,sl 1 vint v866,true),(218,sl 2 vunit p22,false),(219,.int .i64 ((p22.getD []).length:Int),false),(220,.int .i64 s2,false),(289,sl 1 vint v777,false),(290,.int .i64 ((v777.getD []).length:Int),false),(291,.int .i64 (wrapF .i64 (s4.2.1 + 1)),false)],[.cells [(sl 1 vint q0_0,false),(sl 1 vint q0_1,false)],.cells [(.str v766.serial,false),(sl 1 vint v766.values,false)]]⟩) (by simp only [go_sem,seval,c3_4,St3_4,h855,idxR_O h857,idxR_O h859,idxR_O h861,h862,h865,app_vint_N h867 h865] <;> rfl) (gc_same (Nat.le_refl _))
   ·cases h
 ·cases h
  exact stepO_out (by simp only [go_sem,seval,c3_4,St3_4,h855,Ex3_4] <;> rfl)
theorem l3_4 (a0:Option (List (Option (List Int)))) (p7:Option (List GUnit)) (o7:Bool) (p22:Option (List GUnit)) (p25:Int) (q0_0:Option (List Int)) (q0_1:Option (List Int)) (s2:Int) (v766:GUnit) (v777:Option (List Int)) {s4:(Option (List Int)) × Int × Bool} {d} (h:itO (s3_4 a0 p7 o7 p22 p25 q0_0 q0_1 s2 v766 v777) s4=some d):X prE (.loop c3_4) (St3_4 a0 p7 o7 p22 p25 q0_0 q0_1 s2 v766 v777 s4)=some (Ex3_4 a0 p7 o7 p22 p25 q0_0 q0_1 s2 v766 v777 d):=X_itO (b3_4 a0 p7 o7 p22 p25 q0_0 q0_1 s2 v766 v777) (fun d hh=>by cases hh) h
noncomputable def s3_5 (a0:Option (List (Option (List Int)))) (p7:Option (List GUnit)) (o7:Bool) (p22:Option (List GUnit)) (p25:Int) (q0_0:Option (List Int)) (q0_1:Option (List Int)) (s2:Int) (v766:GUnit) (v872:(Option (List Int)) × Int) (v876:Int × Int) (s5:Int × Int):Option ((Int × Int) ⊕ ((Int × Int))):=
 cond (decide (s5.2 < ((v872.1.getD []).length:Int)))
  (obind (idxO (v872.1.getD []) s5.2) fun v888=>
  some (.inl (max (max s5.1 v888) (wrapF .i64 (0 - v888)),wrapF .i64 (s5.2 + 1))))
  (some (.inr (s5.1,s5.2)))
def St3_5 (a0:Option (List (Option (List Int)))) (p7:Option (List GUnit)) (o7:Bool) (p22:Option (List GUnit)) (p25:Int) (q0_0:Option (List Int)) (q0_1:Option (List Int)) (s2:Int) (v766:GUnit) (v872:(Option (List Int)) × Int) (v876:Int × Int) (s5:Int × Int):ASt:=⟨[(0,sl 1 (sl 1 vint) a0,false),(7,sl 2 vunit p7,o7),(22,sl 2 vunit p22,false),(25,.int .i64 p25,false),(26,.ptr 0 0,false),(43,.int .i64 v876.1,false),(45,.int .i64 s5.1,false),(218,sl 2 vunit p22,false),(219,.int .i64 ((p22.getD []).length:Int),false),(220,.int .i64 s2,false),(338,sl 1 vint v872.1,false),(339,.int .i64 ((v872.1.getD []).length:Int),false),(340,.int .i64 s5.2,false)],[.cells [(sl 1 vint q0_0,false),(sl 1 vint q0_1,false)],.cells [(.str v766.serial,false),(sl 1 vint v766.values,false)]]⟩
def Ex3_5 (a0:Option (List (Option (List Int)))) (p7:Option (List GUnit)) (o7:Bool) (p22:Option (List GUnit)) (p25:Int) (q0_0:Option (List Int)) (q0_1:Option (List Int)) (s2:Int) (v766:GUnit) (v872:(Option (List Int)) × Int) (v876:Int × Int) (d:(Int × Int)):AExit × ASt:=(.exit 10,⟨[(0,sl 1 (sl 1 vint) a0,false),(7,sl 2 vunit p7,o7),(22,sl 2 vunit p22,false),(25,.int .i64 p25,false),(26,.ptr 0 0,false),(43,.int .i64 v876.1,false),(45,.int .i64 d.1,false),(218,sl 2 vunit p22,false),(219,.int .i64 ((p22.getD []).length:Int),false),(220,.int .i64 s2,false),(338,sl 1 vint v872.1,false),(339,.int .i64 ((v872.1.getD []).length:Int),false),(340,.int .i64 d.2,false),(341,.bool false,false)],[.cells [(sl 1 vint q0_0,false),(sl 1 vint q0_1,false)],.cells [(.str v766.serial,false),(sl 1 vint v766.values,false)]]⟩)
theorem b3_5 (a0:Option (List (Option (List Int)))) (p7:Option (List GUnit)) (o7:Bool) (p22:Option (List GUnit)) (p25:Int) (q0_0:Option (List Int)) (q0_1:Option (List Int)) (s2:Int) (v766:GUnit) (v872:(Option (List Int)) × Int) (v876:Int × Int) (s5:Int × Int) (r) (h:s3_5 a0 p7 o7 p22 p25 q0_0 q0_1 s2 v766 v872 v876 s5=some r):stepO prE c3_5 (St3_5 a0 p7 o7 p22 p25 q0_0 q0_1 s2 v766 v872 v876) (Ex3_5 a0 p7 o7 p22 p25 q0_0 q0_1 s2 v766 v872 v876) s5 r:=by
 unfold s3_5 at h
 rcases cond_split h with ⟨h887,h⟩ | ⟨h887,h⟩
 ·obtain ⟨v888,h889,h⟩:=obind_some h
  cases h
  exact stepO_in (st':=⟨[(0,sl 1 (sl 1 vint) a0,false),(7,sl 2 vunit p7,o7),(22,sl 2 vunit p22,false),(25,.int .i64 p25,false),(26,.ptr 0 0,false),(43,.int .i64 v876.1,false),(45,.int .i64 (max (max s5.1 v888) (wrapF .i64 (0 - v888))),false),(218,sl 2 vunit p22,false),(219,.int .i64 ((p22.getD []).length:Int),false),(220,.int .i64 s2,false),(338,sl 1 vint v872.1,false),(339,.int .i64 ((v872.1.getD []).length:Int),false),(340,.int .i64 (wrapF .i64 (s5.2 + 1)),false)],[.cells [(sl 1 vint q0_0,false),(sl 1 vint q0_1,false)],.cells [(.str v766.serial,false),(sl 1 vint v766.values,false)]]⟩) (by simp only [go_sem,seval,c3_5,St3_5,h887,idxR_O h889] <;> rfl) (gc_same (Nat.le_refl _))
 ·cases h
  exact stepO_out (by simp only [go_sem,seval,c3_5,St3_5,h887,Ex3_5] <;> rfl)
theorem l3_5 (a0:Option (List (Option (List Int)))) (p7:Option (List GUnit)) (o7:Bool) (p22:Option (List GUnit)) (p25:Int) (q0_0:Option (List Int)) (q0_1:Option (List Int)) (s2:Int) (v766:GUnit) (v872:(Option (List Int)) × Int) (v876:Int × Int) {s5:Int × Int} {d} (h:itO (s3_5 a0 p7 o7 p22 p25 q0_0 q0_1 s2 v766 v872 v876) s5=some d):X prE (.loop c3_5) (St3_5 a0 p7 o7 p22 p25 q0_0 q0_1 s2 v766 v872 v876 s5)=some (Ex3_5 a0 p7 o7 p22 p25 q0_0 q0_1 s2 v766 v872 v876 d):=X_itO (b3_5 a0 p7 o7 p22 p25 q0_0 q0_1 s2 v766 v872 v876) (fun d hh=>by cases hh) h
noncomputable def s3_3b (a0:Option (List (Option (List Int)))) (p7:Option (List GUnit)) (o7:Bool) (p22:Option (List GUnit)) (p25:Int) (q0_0:Option (List Int)) (q0_1:Option (List Int)) (s2:Int) (v766:GUnit) (v772:(Option (List Int)) × Int) (v893:Option (List Int)) (s3:(Option (List Int)) × Int × Bool):Option (((Option (List Int)) × Int × Bool) ⊕ (((Option (List Int)) × Bool × Int))):=
 cond (decide (s3.2.1 < ((v893.getD []).length:Int)))
  (obind (idxO (v893.getD []) s3.2.1) fun v926=>
  obind (idxO (q0_0.getD []) s3.2.1) fun v928=>
  cond (decide (v926 < v928))
   (cond s3.2.2
    (obind (apO s3.1 [s3.2.1]) fun v932=>
    some (.inl (v932,wrapF .i64 (s3.2.1 + 1),true)))
    (cond s3.1.isNone
     (obind (apO s3.1 [s3.2.1]) fun v935=>
     some (.inl (v935,wrapF .i64 (s3.2.1 + 1),true)))
     (none)))
   (obind (idxO (q0_1.getD []) s3.2.1) fun v937=>
   cond (decide (v937 < v926))
    (cond s3.2.2
     (obind (apO s3.1 [s3.2.1]) fun v941=>
     some (.inl (v941,wrapF .i64 (s3.2.1 + 1),true)))
     (cond s3.1.isNone
      (obind (apO s3.1 [s3.2.1]) fun v944=>
      some (.inl (v944,wrapF .i64 (s3.2.1 + 1),true)))
      (none)))
    (some (.inl (s3.1,wrapF .i64 (s3.2.1 + 1),s3.2.2)))))
  (some (.inr (s3.1,s3.2.2,s3.2.1)))
def St3_3b (a0:Option (List (Option (List Int)))) (p7:Option (List GUnit)) (o7:Bool) (p22:Option (List GUnit)) (p25:Int) (q0_0:Option (List Int)) (q0_1:Option (List Int)) (s2:Int) (v766:GUnit) (v772:(Option (List Int)) × Int) (v893:Option (List Int)) (s3:(Option (List Int)) × Int × Bool):ASt:=⟨[(0,sl 1 (sl 1 vint) a0,false),(7,sl 2 vunit p7,o7),(22,sl 2 vunit p22,false),(25,.int .i64 p25,false),(26,.ptr 0 0,false),(28,.int .i64 s2,false),(29,.ptr 1 0,false),(30,sl 1 vint v772.1,false),(32,sl 1 vint s3.1,s3.2.2),(218,sl 2 vunit p22,false),(219,.int .i64 ((p22.getD []).length:Int),false),(220,.int .i64 s2,false),(254,sl 1 vint v893,false),(255,.int .i64 ((v893.getD []).length:Int),false),(256,.int .i64 s3.2.1,false)],[.cells [(sl 1 vint q0_0,false),(sl 1 vint q0_1,false)],.cells [(.str v766.serial,false),(sl 1 vint v766.values,false)]]⟩
def Ex3_3b (a0:Option (List (Option (List Int)))) (p7:Option (List GUnit)) (o7:Bool) (p22:Option (List GUnit)) (p25:Int) (q0_0:Option (List Int)) (q0_1:Option (List Int)) (s2:Int) (v766:GUnit) (v772:(Option (List Int)) × Int) (v893:Option (List Int)) (d:((Option (List Int)) × Bool × Int)):AExit × ASt:=(.exit 6,⟨[(0,sl 1 (sl 1 vint) a0,false),(7,sl 2 vunit p7,o7),(22,sl 2 vunit p22,false),(25,.int .i64 p25,false),(26,.ptr 0 0,false),(28,.int .i64 s2,false),(29,.ptr 1 0,false),(30,sl 1 vint v772.1,false),(32,sl 1 vint d.1,d.2.1),(218,sl 2 vunit p22,false),(219,.int .i64 ((p22.getD []).length:Int),false),(220,.int .i64 s2,false),(254,sl 1 vint v893,false),(255,.int .i64 ((v893.getD []).length:Int),false),(256,.int .i64 d.2.2,false),(257,.bool false,false)],[.cells [(sl 1 vint q0_0,false),(sl 1 vint q0_1,false)],.cells [(.str v766.serial,false),(sl 1 vint v766.values,false)]]⟩)
theorem b3_3b (a0:Option (List (Option (List Int)))) (p7:Option (List GUnit)) (o7:Bool) (p22:Option (List GUnit)) (p25:Int) (q0_0:Option (List Int)) (q0_1:Option (List Int)) (s2:Int) (v766:GUnit) (v772:(Option (List Int)) × Int) (v893:Option (List Int)) (s3:(Option (List Int)) × Int × Bool) (r) (h:s3_3b a0 p7 o7 p22 p25 q0_0 q0_1 s2 v766 v772 v893 s3=some r):stepO prE c3_3 (St3_3b a0 p7 o7 p22 p25 q0_0 q0_1 s2 v766 v772 v893) (Ex3_3b a0 p7 o7 p22 p25 q0_0 q0_1 s2 v766 v772 v893) s3 r:=by
 unfold s3_3b at h
 rcases cond_split h with ⟨h925,h⟩ | ⟨h925,h⟩
 ·obtain ⟨v926,h927,h⟩:=obind_some h
  obtain ⟨v928,h929,h⟩:=obind_some h
  rcases cond_split h with ⟨h930,h⟩ | ⟨h930,h⟩
  ·rcases cond_split h with ⟨h931,h⟩ | ⟨h931,h⟩
   ·obtain ⟨v932,h933,h⟩:=obind_some h
    cases h
    exact stepO_in (st':=⟨[(0,sl 1 (sl 1 vint) a0,false),(7,sl 2 vunit p7,o7),(22,sl 2 vunit p22,false),(25,.int .i64 p25,false),(26,.ptr 0 0,false),(28,.int .i64 s2,false),(29,.ptr 1 0,false),(30,sl 1 vint v772.1,false),(32,sl 1 vint v932,true),(218,sl 2 vunit p22,false),(219,.int .i64 ((p22.getD []).length:Int),false),(220,.int .i64 s2,false),(254,sl 1 vint v893,false),(255,.int .i64 ((v893.getD []).length:Int),false),(256,.int .i64 (wrapF .i64 (s3.2.1 + 1)),false)],[.cells [(sl 1 vint q0_0,false),(sl 1 vint q0_1,false)],.cells [(.str v766.serial,false),(sl 1 vint v766.values,false)]]⟩) (by simp only [go_sem,seval,c3_3,St3_3b,h925,idxR_O h927,idxR_O h929,h930,h931,app_vint_O h933] <;> rfl) (gc_same (Nat.le_refl _))
   ·rcases cond_split h with ⟨h934,h⟩ | ⟨h934,h⟩
    ·obtain ⟨v935,h936,h⟩:=obind_some h
     cases h
     exact stepO_in (st':=⟨[(0,sl 1 (sl 1 vint) a0,false),(7,sl 2 vunit p7,o7),(22,sl 2 vunit p22,false),(25,.int .i64 p25,false),(26,.ptr 0 0,false),(28,.int .i64 s2,false),(29,.ptr 1 0,false),(30,sl 1 vint v772.1,false),(32,sl 1 vint v935,true),(218,sl 2 vunit p22,false),(219,.int .i64 ((p22.getD []).length:Int),false),(220,.int .i64 s2,false),(254,sl 1 vint v893,false),(255,.int .i64 ((v893.getD []).length:Int),false),(256,.int .i64 (wrapF .i64 (s3.2.1 + 1)),false)],[.cells [(sl 1 vint q0_0,false),(sl 1 vint q0_1,false)],.cells [(.str v766.serial,false),(sl 1 vint v766.values,false)]]⟩) (by simp only [go_sem,seval,c3_3,St3_3b,h925,idxR_O h927,idxR_O h929,h930,h931,h934,app_vint_N h936 h934] <;> rfl) (gc_same (Nat.le_refl _))
    ·cases h
  ·obtain ⟨v937,h938,h⟩:=obind_some h
   rcases cond_split h with ⟨h939,h⟩ | ⟨h939,h⟩
   ·rcases cond_split h with ⟨h940,h⟩ | ⟨h940,h⟩
    ·obtain ⟨v941,h942,h⟩:=obind_some h
     cases h
     exact stepO_in (st':=⟨[(0,sl 1 (sl 1 vint) a0,false),(7,sl 2 vunit p7,o7),(22,sl 2 vunit p22,false),(25,.int .i64 p25,false),(26,.ptr 0 0,false),(28,.int .i64 s2,false),(29,.ptr 1 0,false),(30,sl 1 vint v772.1,false),(32,sl 1 vint v941,true),(218,sl 2 vunit p22,false),(219,.int .i64 ((p22.getD []).length:Int),false),(220,.int .i64 s2,false),(254,sl 1 vint v893,false),(255,.int .i64 ((v893.getD []).length:Int),false),(256,.int .i64 (wrapF .i64 (s3.2.1 + 1)),false)],[.cells [(sl 1 vint q0_0,false),(sl 1 vint q0_1,false)],.cells [(.str v766.serial,false),(sl 1 vint v766.values,false)]]⟩) (by simp only [go_sem,seval,c3_3,St3_3b,h925,idxR_O h927,idxR_O h929,h930,idxR_O h938,h939,h940,app_vint_O h942] <;> rfl) (gc_same (Nat.le_refl _))
    ·rcases cond_split h with ⟨h943,h⟩ | ⟨h943,h⟩
     ·obtain ⟨v944,h945,h⟩:=obind_some h
      cases h
      exact stepO_in (st':=⟨[(0,sl 1 (sl 1 vint) a0,false),(7,sl 2 vunit p7,o7),(22,sl 2 vunit p22,false),(25,.int .i64 p25,false),(26,.ptr 0 0,false),(28,.int .i64 s2,false),(29,.ptr 1 0,false),(30,sl 1 vint v772.1,false),(32,sl 1 vint v944,true),(218,sl 2 vunit p22,false),(219,.int .i64 ((p22.getD []).length:Int),false),(220,.int .i64 s2,false),(254,sl 1 vint v893,false),(255,.int .i64 ((v893.getD []).length:Int),false),(256,.int .i64 (wrapF .i64 (s3.2.1 + 1)),false)],[.cells [(sl 1 vint q0_0,false),(sl 1 vint q0_1,false)],.cells [(.str v766.serial,false),(sl 1 vint v766.values,false)]]⟩) (by simp only [go_sem,seval,c3_3,St3_3b,h925,idxR_O h927,idxR_O h929,h930,idxR_O h938,h939,h940,h943,app_vint_N h945 h943] <;> rfl) (gc_same (Nat.le_refl _))
     ·cases h
   ·cases h
    exact stepO_in (st':=⟨[(0,sl 1 (sl 1 vint) a0,false),(7,sl 2 vunit p7,o7),(22,sl 2 vunit p22,false),(25,.int .i64 p25,false),(26,.ptr 0 0,false),(28,.int .i64 s2,false),(29,.ptr 1 0,false),(30,sl 1 vint v772.1,false),(32,sl 1 vint s3.1,s3.2.2),(218,sl 2 vunit p22,false),(219,.int .i64 ((p22.getD []).length:Int),false),(220,.int .i64 s2,false),(254,sl 1 vint v893,false),(255,.int .i64 ((v893.getD []).length:Int),false),(256,.int .i64 (wrapF .i64 (s3.2.1 + 1)),false)],[.cells [(sl 1 vint q0_0,false),(sl 1 vint q0_1,false)],.cells [(.str v766.serial,false),(sl 1 vint v766.values,false)]]⟩) (by simp only [go_sem,seval,c3_3,St3_3b,h925,idxR_O h927,idxR_O h929,h930,idxR_O h938,h939] <;> rfl) (gc_same (Nat.le_refl _))
 ·cases h
  exact stepO_out (by simp only [go_sem,seval,c3_3,St3_3b,h925,Ex3_3b] <;> rfl)
theorem l3_3b (a0:Option (List (Option (List Int)))) (p7:Option (List GUnit)) (o7:Bool) (p22:Option (List GUnit)) (p25:Int) (q0_0:Option (List Int)) (q0_1:Option (List Int)) (s2:Int) (v766:GUnit) (v772:(Option (List Int)) × Int) (v893:Option (List Int)) {s3:(Option (List Int)) × Int × Bool} {d} (h:itO (s3_3b a0 p7 o7 p22 p25 q0_0 q0_1 s2 v766 v772 v893) s3=some d):X prE (.loop c3_3) (St3_3b a0 p7 o7 p22 p25 q0_0 q0_1 s2 v766 v772 v893 s3)=some (Ex3_3b a0 p7 o7 p22 p25 q0_0 q0_1 s2 v766 v772 v893 d):=X_itO (b3_3b a0 p7 o7 p22 p25 q0_0 q0_1 s2 v766 v772 v893) (fun d hh=>by cases hh) h
noncomputable def s3_4b (a0:Option (List (Option (List Int)))) (p7:Option (List GUnit)) (o7:Bool) (p22:Option (List GUnit)) (p25:Int) (q0_0:Option (List Int)) (q0_1:Option (List Int)) (s2:Int) (v766:GUnit) (v893:Option (List Int)) (s4:(Option (List Int)) × Int × Bool):Option (((Option (List Int)) × Int × Bool) ⊕ (((Option (List Int)) × Bool × Int))):=
 cond (decide (s4.2.1 < ((v893.getD []).length:Int)))
  (obind (idxO (v893.getD []) s4.2.1) fun v972=>
  obind (idxO (a0.getD []) 0) fun v974=>
  obind (idxO (v974.getD []) s4.2.1) fun v976=>
  cond s4.2.2
   (obind (apO s4.1 [wrapF .i64 (v972 - v976)]) fun v979=>
   some (.inl (v979,wrapF .i64 (s4.2.1 + 1),true)))
   (cond s4.1.isNone
    (obind (apO s4.1 [wrapF .i64 (v972 - v976)]) fun v982=>
    some (.inl (v982,wrapF .i64 (s4.2.1 + 1),true)))
    (none)))
  (some (.inr (s4.1,s4.2.2,s4.2.1)))
def St3_4b (a0:Option (List (Option (List Int)))) (p7:Option (List GUnit)) (o7:Bool) (p22:Option (List GUnit)) (p25:Int) (q0_0:Option (List Int)) (q0_1:Option (List Int)) (s2:Int) (v766:GUnit) (v893:Option (List Int)) (s4:(Option (List Int)) × Int × Bool):ASt:=⟨[(0,sl 1 (sl 1 vint) a0,false),(7,sl 2 vunit p7,o7),(22,sl 2 vunit p22,false),(25,.int .i64 p25,false),(26,.ptr 0 0,false),(29,.ptr 1 0,false),(35,sl 1 vint s4.1,s4.2.2),(218,sl 2 vunit p22,false),(219,.int .i64 ((p22.getD []).length:Int),false),(220,.int .i64 s2,false),(289,sl 1 vint v893,false),(290,.int .i64 ((v893.getD []).length:Int),false),(291,.int .i64 s4.2.1,false)],[.cells [(sl 1 vint q0_0,false),(sl 1 vint q0_1,false)],.cells [(.str v766.serial,false),(sl 1 vint v766.values,false)]]⟩
def Ex3_4b (a0:Option (List (Option (List Int)))) (p7:Option (List GUnit)) (o7:Bool) (p22:Option (List GUnit)) (p25:Int) (q0_0:Option (List Int)) (q0_1:Option (List Int)) (s2:Int) (v766:GUnit) (v893:Option (List Int)) (d:((Option (List Int)) × Bool × Int)):AExit × ASt:=(.exit 8,⟨[(0,sl 1 (sl 1 vint) a0,false),(7,sl 2 vunit p7,o7),(22,sl 2 vunit p22,false),(25,.int .i64 p25,false),(26,.ptr 0 0,false),(29,.ptr 1 0,false),(35,sl 1 vint d.1,d.2.1),(218,sl 2 vunit p22,false),(219,.int .i64 ((p22.getD []).length:Int),false),(220,.int .i64 s2,false),(289,sl 1 vint v893,false),(290,.int .i64 ((v893.getD []).length:Int),false),(291,.int .i64 d.2.2,false),(292,.bool false,false)],[.cells [(sl 1 vint q0_0,false),(sl 1 vint q0_1,false)],.cells [(.str v766.serial,false),(sl 1 vint v766.values,false)]]⟩)
theorem b3_4b (a0:Option (List (Option (List Int)))) (p7:Option (List GUnit)) (o7:Bool) (p22:Option (List GUnit)) (p25:Int) (q0_0:Option (List Int)) (q0_1:Option (List Int)) (s2:Int) (v766:GUnit) (v893:Option (List Int)) (s4:(Option (List Int)) × Int × Bool) (r) (h:s3_4b a0 p7 o7 p22 p25 q0_0 q0_1 s2 v766 v893 s4=some r):stepO prE c3_4 (St3_4b a0 p7 o7 p22 p25 q0_0 q0_1 s2 v766 v893) (Ex3_4b a0 p7 o7 p22 p25 q0_0 q0_1 s2 v766 v893) s4 r:=by
 unfold s3_4b at h
 rcases cond_split h with ⟨h971,h⟩ | ⟨h971,h⟩
 ·obtain ⟨v972,h973,h⟩:=obind_some h
  obtain ⟨v974,h975,h⟩:=obind_some h
  obtain ⟨v976,h977,h⟩:=obind_some h
  rcases cond_split h with ⟨h978,h⟩ | ⟨h978,h⟩
  ·obtain ⟨v979,h980,h⟩:=obind_some h
   cases h
   exact stepO_in (st':=⟨[(0,sl 1 (sl 1 vint) a0,false),(7,sl 2 vunit p7,o7),(22,sl 2 vunit p22,false),(25,.int .i64 p25,false),(26,.ptr 0 0,false),(29,.ptr 1 0,false),(35,sl 1 vint v979,true),(218,sl 2 vunit p22,false),(219,.int .i64 ((p22.getD []).length:Int),false),(220,.int .i64 s2,false),(289,sl 1 vint v893,false),(290,.int .i64 ((v893.getD []).length:Int),false),(291,.int .i64 (wrapF .i64 (s4.2.1 + 1)),false)],[.cells [(sl 1 vint q0_0,false),(sl 1 vint q0_1,false)],.cells [(.str v766.serial,false),(sl 1 vint v766.values,false)]]⟩) (by simp only [go_sem,seval,c3_4,St3_4b,h971,idxR_O h973,idxR_O h975,idxR_O h977,h978,app_vint_O h980] <;> rfl) (gc_same (Nat.le_refl _))
  ·rcases cond_split h with ⟨h981,h⟩ | ⟨h981,h⟩
   ·obtain ⟨v982,h983,h⟩:=obind_some h
    cases h
    exact stepO_in (st':=⟨[(0,sl 1 (sl 1 vint) a0,false),(7,sl 2 vunit p7,o7),(22,sl 2 vunit p22,false),(25,.int .i64 p25,false),(26,.ptr 0 0,false),(29,.ptr 1 0,false),(35,sl 1 vint v982,true),(218,sl 2 vunit p22,false),(219,.int .i64 ((p22.getD []).length:Int),false),(220,.int .i64 s2,false),(289,sl 1 vint v893,false),(290,.int .i64 ((v893.getD []).length:Int),false),(291,.int .i64 (wrapF .i64 (s4.2.1 + 1)),false)],[.cells [(sl 1 vint q0_0,false),(sl 1 vint q0_1,false)],.cells [(.str v766.serial,false),(sl 1 vint v766.values,false)]]⟩) (by simp only [go_sem,seval,c3_4,St3_4b,h971,idxR_O h973,idxR_O h975,idxR_O h977,h978,h981,app_vint_N h983 h981] <;> rfl) (gc_same (Nat.le_refl _))
   ·cases h
 ·cases h
  exact stepO_out (by simp only [go_sem,seval,c3_4,St3_4b,h971,Ex3_4b] <;> rfl)
theorem l3_4b (a0:Option (List (Option (List Int)))) (p7:Option (List GUnit)) (o7:Bool) (p22:Option (List GUnit)) (p25:Int) (q0_0:Option (List Int)) (q0_1:Option (List Int)) (s2:Int) (v766:GUnit) (v893:Option (List Int)) {s4:(Option (List Int)) × Int × Bool} {d} (h:itO (s3_4b a0 p7 o7 p22 p25 q0_0 q0_1 s2 v766 v893) s4=some d):X prE (.loop c3_4) (St3_4b a0 p7 o7 p22 p25 q0_0 q0_1 s2 v766 v893 s4)=some (Ex3_4b a0 p7 o7 p22 p25 q0_0 q0_1 s2 v766 v893 d):=X_itO (b3_4b a0 p7 o7 p22 p25 q0_0 q0_1 s2 v766 v893) (fun d hh=>by cases hh) h
noncomputable def s3_5b (a0:Option (List (Option (List Int)))) (p7:Option (List GUnit)) (o7:Bool) (p22:Option (List GUnit)) (p25:Int) (q0_0:Option (List Int)) (q0_1:Option (List Int)) (s2:Int) (v766:GUnit) (v988:(Option (List Int)) × Int) (v992:Int × Int) (s5:Int × Int):Option ((Int × Int) ⊕ ((Int × Int))):=
 cond (decide (s5.2 < ((v988.1.getD []).length:Int)))
  (obind (idxO (v988.1.getD []) s5.2) fun v1004=>
  some (.inl (max (max s5.1 v1004) (wrapF .i64 (0 - v1004)),wrapF .i64 (s5.2 + 1))))
  (some (.inr (s5.1,s5.2)))
def St3_5b (a0:Option (List (Option (List Int)))) (p7:Option (List GUnit)) (o7:Bool) (p22:Option (List GUnit)) (p25:Int) (q0_0:Option (List Int)) (q0_1:Option (List Int)) (s2:Int) (v766:GUnit) (v988:(Option (List Int)) × Int) (v992:Int × Int) (s5:Int × Int):ASt:=⟨[(0,sl 1 (sl 1 vint) a0,false),(7,sl 2 vunit p7,o7),(22,sl 2 vunit p22,false),(25,.int .i64 p25,false),(26,.ptr 0 0,false),(43,.int .i64 v992.1,false),(45,.int .i64 s5.1,false),(218,sl 2 vunit p22,false),(219,.int .i64 ((p22.getD []).length:Int),false),(220,.int .i64 s2,false),(338,sl 1 vint v988.1,false),(339,.int .i64 ((v988.1.getD []).length:Int),false),(340,.int .i64 s5.2,false)],[.cells [(sl 1 vint q0_0,false),(sl 1 vint q0_1,false)],.cells [(.str v766.serial,false),(sl 1 vint v766.values,false)]]⟩
def Ex3_5b (a0:Option (List (Option (List Int)))) (p7:Option (List GUnit)) (o7:Bool) (p22:Option (List GUnit)) (p25:Int) (q0_0:Option (List Int)) (q0_1:Option (List Int)) (s2:Int) (v766:GUnit) (v988:(Option (List Int)) × Int) (v992:Int × Int) (d:(Int × Int)):AExit × ASt:=(.exit 10,⟨[(0,sl 1 (sl 1 vint) a0,false),(7,sl 2 vunit p7,o7),(22,sl 2 vunit p22,false),(25,.int .i64 p25,false),(26,.ptr 0 0,false),(43,.int .i64 v992.1,false),(45,.int .i64 d.1,false),(218,sl 2 vunit p22,false),(219,.int .i64 ((p22.getD []).length:Int),false),(220,.int .i64 s2,false),(338,sl 1 vint v988.1,false),(339,.int .i64 ((v988.1.getD []).length:Int),false),(340,.int .i64 d.2,false),(341,.bool false,false)],[.cells [(sl 1 vint q0_0,false),(sl 1 vint q0_1,false)],.cells [(.str v766.serial,false),(sl 1 vint v766.values,false)]]⟩)
theorem b3_5b (a0:Option (List (Option (List Int)))) (p7:Option (List GUnit)) (o7:Bool) (p22:Option (List GUnit)) (p25:Int) (q0_0:Option (List Int)) (q0_1:Option (List Int)) (s2:Int) (v766:GUnit) (v988:(Option (List Int)) × Int) (v992:Int × Int) (s5:Int × Int) (r) (h:s3_5b a0 p7 o7 p22 p25 q0_0 q0_1 s2 v766 v988 v992 s5=some r):stepO prE c3_5 (St3_5b a0 p7 o7 p22 p25 q0_0 q0_1 s2 v766 v988 v992) (Ex3_5b a0 p7 o7 p22 p25 q0_0 q0_1 s2 v766 v988 v992) s5 r:=by
 unfold s3_5b at h
 rcases cond_split h with ⟨h1003,h⟩ | ⟨h1003,h⟩
 ·obtain ⟨v1004,h1005,h⟩:=obind_some h
  cases h
  exact stepO_in (st':=⟨[(0,sl 1 (sl 1 vint) a0,false),(7,sl 2 vunit p7,o7),(22,sl 2 vunit p22,false),(25,.int .i64 p25,false),(26,.ptr 0 0,false),(43,.int .i64 v992.1,false),(45,.int .i64 (max (max s5.1 v1004) (wrapF .i64 (0 - v1004))),false),(218,sl 2 vunit p22,false),(219,.int .i64 ((p22.getD []).length:Int),false),(220,.int .i64 s2,false),(338,sl 1 vint v988.1,false),(339,.int .i64 ((v988.1.getD []).length:Int),false),(340,.int .i64 (wrapF .i64 (s5.2 + 1)),false)],[.cells [(sl 1 vint q0_0,false),(sl 1 vint q0_1,false)],.cells [(.str v766.serial,false),(sl 1 vint v766.values,false)]]⟩) (by simp only [go_sem,seval,c3_5,St3_5b,h1003,idxR_O h1005] <;> rfl) (gc_same (Nat.le_refl _))
 ·cases h
  exact stepO_out (by simp only [go_sem,seval,c3_5,St3_5b,h1003,Ex3_5b] <;> rfl)
theorem l3_5b (a0:Option (List (Option (List Int)))) (p7:Option (List GUnit)) (o7:Bool) (p22:Option (List GUnit)) (p25:Int) (q0_0:Option (List Int)) (q0_1:Option (List Int)) (s2:Int) (v766:GUnit) (v988:(Option (List Int)) × Int) (v992:Int × Int) {s5:Int × Int} {d} (h:itO (s3_5b a0 p7 o7 p22 p25 q0_0 q0_1 s2 v766 v988 v992) s5=some d):X prE (.loop c3_5) (St3_5b a0 p7 o7 p22 p25 q0_0 q0_1 s2 v766 v988 v992 s5)=some (Ex3_5b a0 p7 o7 p22 p25 q0_0 q0_1 s2 v766 v988 v992 d):=X_itO (b3_5b a0 p7 o7 p22 p25 q0_0 q0_1 s2 v766 v988 v992) (fun d hh=>by cases hh) h
noncomputable def s3_2 (a0:Option (List (Option (List Int)))) (p7:Option (List GUnit)) (o7:Bool) (p22:Option (List GUnit)) (p25:Int) (q0_0:Option (List Int)) (q0_1:Option (List Int)) (s2:Int):Option (Int ⊕ (((List UInt8) × (Option (List Int))) ⊕ Int)):=
 cond (decide (s2 < ((p22.getD []).length:Int)))
  (obind (idxO (p22.getD []) s2) fun v766=>
  obind (apO (some []) (q0_0.getD [])) fun v768=>
  obind (apO (some []) (q0_1.getD [])) fun v770=>
  obind (E13 (⟨v768,v770⟩) v766) fun v772=>
  cond (decide (v772.2=0))
   (cond (decide (s2 < p25))
    (cond (decide (((v772.1.getD []).length:Int)=0))
     (obind (idxO (a0.getD []) s2) fun v777=>
     obind (itO (s3_3 a0 p7 o7 p22 p25 q0_0 q0_1 s2 v766 v772 v777) (none,0,false)) fun d830=>
     obind (E8 v772.1 d830.1) fun v832=>
     cond v832
      (obind (itO (s3_4 a0 p7 o7 p22 p25 q0_0 q0_1 s2 v766 v777) (none,0,false)) fun d868=>
      obind (E6a d868.1 8) fun v870=>
      obind (E7d v870.1 v870.2.1 8) fun v872=>
      obind (idxO (p7.getD []) 0) fun v874=>
      obind (f14 v766 v874) fun v876=>
      cond (decide (v870.2.2=0))
       (cond (decide (v872.2=0))
        (cond (decide (v876.2=0))
         (obind (itO (s3_5 a0 p7 o7 p22 p25 q0_0 q0_1 s2 v766 v872 v876) (0,0)) fun d890=>
         cond (decide (v876.1=d890.1))
          (some (.inl (wrapF .i64 (s2 + 1))))
          (some (.inr (.inl (v766.serial,v766.values)))))
         (some (.inr (.inl (v766.serial,v766.values)))))
        (some (.inr (.inl (v766.serial,v766.values)))))
       (some (.inr (.inl (v766.serial,v766.values)))))
      (some (.inr (.inl (v766.serial,v766.values)))))
     (some (.inr (.inl (v766.serial,v766.values)))))
    (obind (idxO (a0.getD []) s2) fun v893=>
    obind (itO (s3_3b a0 p7 o7 p22 p25 q0_0 q0_1 s2 v766 v772 v893) (none,0,false)) fun d946=>
    obind (E8 v772.1 d946.1) fun v948=>
    cond v948
     (obind (itO (s3_4b a0 p7 o7 p22 p25 q0_0 q0_1 s2 v766 v893) (none,0,false)) fun d984=>
     obind (E6a d984.1 8) fun v986=>
     obind (E7d v986.1 v986.2.1 8) fun v988=>
     obind (idxO (p7.getD []) 0) fun v990=>
     obind (f14 v766 v990) fun v992=>
     cond (decide (v986.2.2=0))
      (cond (decide (v988.2=0))
       (cond (decide (v992.2=0))
        (obind (itO (s3_5b a0 p7 o7 p22 p25 q0_0 q0_1 s2 v766 v988 v992) (0,0)) fun d1006=>
        cond (decide (v992.1=d1006.1))
         (some (.inl (wrapF .i64 (s2 + 1))))
         (some (.inr (.inl (v766.serial,v766.values)))))
        (some (.inr (.inl (v766.serial,v766.values)))))
       (some (.inr (.inl (v766.serial,v766.values)))))
      (some (.inr (.inl (v766.serial,v766.values)))))
     (some (.inr (.inl (v766.serial,v766.values))))))
   (some (.inr (.inl (v766.serial,v766.values)))))
  (some (.inr (.inr s2)))
def St3_2 (a0:Option (List (Option (List Int)))) (p7:Option (List GUnit)) (o7:Bool) (p22:Option (List GUnit)) (p25:Int) (q0_0:Option (List Int)) (q0_1:Option (List Int)) (s2:Int):ASt:=⟨[(0,sl 1 (sl 1 vint) a0,false),(7,sl 2 vunit p7,o7),(22,sl 2 vunit p22,false),(25,.int .i64 p25,false),(26,.ptr 0 0,false),(218,sl 2 vunit p22,false),(219,.int .i64 ((p22.getD []).length:Int),false),(220,.int .i64 s2,false)],[.cells [(sl 1 vint q0_0,false),(sl 1 vint q0_1,false)]]⟩
def Ex3_2 (a0:Option (List (Option (List Int)))) (p7:Option (List GUnit)) (o7:Bool) (p22:Option (List GUnit)) (p25:Int) (q0_0:Option (List Int)) (q0_1:Option (List Int)):((List UInt8) × (Option (List Int))) ⊕ Int→AExit × ASt
 | .inl d=>(.ret,⟨[(6,.bool false,false)],[.cells [(sl 1 vint q0_0,false),(sl 1 vint q0_1,false)],.cells [(.str d.1,false),(sl 1 vint d.2,false)]]⟩)
 | .inr d=>(.exit 4,⟨[(0,sl 1 (sl 1 vint) a0,false),(7,sl 2 vunit p7,o7),(22,sl 2 vunit p22,false),(25,.int .i64 p25,false),(26,.ptr 0 0,false),(218,sl 2 vunit p22,false),(219,.int .i64 ((p22.getD []).length:Int),false),(220,.int .i64 d,false),(221,.bool false,false)],[.cells [(sl 1 vint q0_0,false),(sl 1 vint q0_1,false)]]⟩)
theorem b3_2 (a0:Option (List (Option (List Int)))) (p7:Option (List GUnit)) (o7:Bool) (p22:Option (List GUnit)) (p25:Int) (q0_0:Option (List Int)) (q0_1:Option (List Int)) (s2:Int) (r) (h:s3_2 a0 p7 o7 p22 p25 q0_0 q0_1 s2=some r):stepO prE c3_2 (St3_2 a0 p7 o7 p22 p25 q0_0 q0_1) (Ex3_2 a0 p7 o7 p22 p25 q0_0 q0_1) s2 r:=by
 unfold s3_2 at h
 rcases cond_split h with ⟨h765,h⟩ | ⟨h765,h⟩
 ·obtain ⟨v766,h767,h⟩:=obind_some h
  obtain ⟨v768,h769,h⟩:=obind_some h
  obtain ⟨v770,h771,h⟩:=obind_some h
  obtain ⟨v772,h773,h⟩:=obind_some h
  have wh773:callIso prE (X prE) 13 [.agg [sl 1 vint v768,sl 1 vint v770],.agg [.str v766.serial,sl 1 vint v766.values]]=some (.tup [sl 1 vint v772.1,.int .i64 v772.2],false):=Q13 h773
  rcases cond_split h with ⟨h774,h⟩ | ⟨h774,h⟩
  ·rcases cond_split h with ⟨h775,h⟩ | ⟨h775,h⟩
   ·rcases cond_split h with ⟨h776,h⟩ | ⟨h776,h⟩
    ·obtain ⟨v777,h778,h⟩:=obind_some h
     obtain ⟨d830,h831,h⟩:=obind_some h
     have wh831:X prE (.loop c3_3) ⟨[(0,sl 1 (sl 1 vint) a0,false),(7,sl 2 vunit p7,o7),(22,sl 2 vunit p22,false),(25,.int .i64 p25,false),(26,.ptr 0 0,false),(28,.int .i64 s2,false),(29,.ptr 1 0,false),(30,sl 1 vint v772.1,false),(32,.list true 0 [],false),(218,sl 2 vunit p22,false),(219,.int .i64 ((p22.getD []).length:Int),false),(220,.int .i64 s2,false),(254,sl 1 vint v777,false),(255,.int .i64 ((v777.getD []).length:Int),false),(256,.int .i64 0,false)],[.cells [(sl 1 vint q0_0,false),(sl 1 vint q0_1,false)],.cells [(.str v766.serial,false),(sl 1 vint v766.values,false)]]⟩=some (.exit 6,⟨[(0,sl 1 (sl 1 vint) a0,false),(7,sl 2 vunit p7,o7),(22,sl 2 vunit p22,false),(25,.int .i64 p25,false),(26,.ptr 0 0,false),(28,.int .i64 s2,false),(29,.ptr 1 0,false),(30,sl 1 vint v772.1,false),(32,sl 1 vint d830.1,d830.2.1),(218,sl 2 vunit p22,false),(219,.int .i64 ((p22.getD []).length:Int),false),(220,.int .i64 s2,false),(254,sl 1 vint v777,false),(255,.int .i64 ((v777.getD []).length:Int),false),(256,.int .i64 d830.2.2,false),(257,.bool false,false)],[.cells [(sl 1 vint q0_0,false),(sl 1 vint q0_1,false)],.cells [(.str v766.serial,false),(sl 1 vint v766.values,false)]]⟩):=l3_3 a0 p7 o7 p22 p25 q0_0 q0_1 s2 v766 v772 v777 h831
     obtain ⟨v832,h833,h⟩:=obind_some h
     have wh833:callIso prE (X prE) 8 [sl 1 vint v772.1,sl 1 vint d830.1]=some (.bool v832,false):=Q8 h833
     rcases cond_split h with ⟨h834,h⟩ | ⟨h834,h⟩
     ·try simp only [h834] at wh831
      obtain ⟨d868,h869,h⟩:=obind_some h
      have wh869:X prE (.loop c3_4) ⟨[(0,sl 1 (sl 1 vint) a0,false),(7,sl 2 vunit p7,o7),(22,sl 2 vunit p22,false),(25,.int .i64 p25,false),(26,.ptr 0 0,false),(29,.ptr 1 0,false),(35,.list true 0 [],false),(218,sl 2 vunit p22,false),(219,.int .i64 ((p22.getD []).length:Int),false),(220,.int .i64 s2,false),(289,sl 1 vint v777,false),(290,.int .i64 ((v777.getD []).length:Int),false),(291,.int .i64 0,false)],[.cells [(sl 1 vint q0_0,false),(sl 1 vint q0_1,false)],.cells [(.str v766.serial,false),(sl 1 vint v766.values,false)]]⟩=some (.exit 8,⟨[(0,sl 1 (sl 1 vint) a0,false),(7,sl 2 vunit p7,o7),(22,sl 2 vunit p22,false),(25,.int .i64 p25,false),(26,.ptr 0 0,false),(29,.ptr 1 0,false),(35,sl 1 vint d868.1,d868.2.1),(218,sl 2 vunit p22,false),(219,.int .i64 ((p22.getD []).length:Int),false),(220,.int .i64 s2,false),(289,sl 1 vint v777,false),(290,.int .i64 ((v777.getD []).length:Int),false),(291,.int .i64 d868.2.2,false),(292,.bool false,false)],[.cells [(sl 1 vint q0_0,false),(sl 1 vint q0_1,false)],.cells [(.str v766.serial,false),(sl 1 vint v766.values,false)]]⟩):=l3_4 a0 p7 o7 p22 p25 q0_0 q0_1 s2 v766 v777 h869
      obtain ⟨v870,h871,h⟩:=obind_some h
      have wh871:callIso prE (X prE) 6 [sl 1 vint d868.1,.int .i64 8]=some (.tup [sl 1 vint v870.1,sl 1 vint v870.2.1,.int .i64 v870.2.2],false):=Q6 h871
      obtain ⟨v872,h873,h⟩:=obind_some h
      have wh873:callIso prE (X prE) 7 [sl 1 vint v870.1,sl 1 vint v870.2.1,.int .i64 8]=some (.tup [sl 1 vint v872.1,.int .i64 v872.2],false):=Q7 h873
      obtain ⟨v874,h875,h⟩:=obind_some h
      obtain ⟨v876,h877,h⟩:=obind_some h
      have wh877:callIso prE (X prE) 14 [.agg [.str v766.serial,sl 1 vint v766.values],.agg [.str v874.serial,sl 1 vint v874.values]]=some (.tup [.int .i64 v876.1,.int .i64 v876.2],false):=Q14 h877
      rcases cond_split h with ⟨h878,h⟩ | ⟨h878,h⟩
      ·try simp only [h878] at wh831 wh869
       rcases cond_split h with ⟨h879,h⟩ | ⟨h879,h⟩
       ·try simp only [h879] at wh831 wh869
        rcases cond_split h with ⟨h880,h⟩ | ⟨h880,h⟩
        ·try simp only [h880] at wh831 wh869
         obtain ⟨d890,h891,h⟩:=obind_some h
         have wh891:X prE (.loop c3_5) ⟨[(0,sl 1 (sl 1 vint) a0,false),(7,sl 2 vunit p7,o7),(22,sl 2 vunit p22,false),(25,.int .i64 p25,false),(26,.ptr 0 0,false),(43,.int .i64 v876.1,false),(45,.int .i64 0,false),(218,sl 2 vunit p22,false),(219,.int .i64 ((p22.getD []).length:Int),false),(220,.int .i64 s2,false),(338,sl 1 vint v872.1,false),(339,.int .i64 ((v872.1.getD []).length:Int),false),(340,.int .i64 0,false)],[.cells [(sl 1 vint q0_0,false),(sl 1 vint q0_1,false)],.cells [(.str v766.serial,false),(sl 1 vint v766.values,false)]]⟩=some (.exit 10,⟨[(0,sl 1 (sl 1 vint) a0,false),(7,sl 2 vunit p7,o7),(22,sl 2 vunit p22,false),(25,.int .i64 p25,false),(26,.ptr 0 0,false),(43,.int .i64 v876.1,false),(45,.int .i64 d890.1,false),(218,sl 2 vunit p22,false),(219,.int .i64 ((p22.getD []).length:Int),false),(220,.int .i64 s2,false),(338,sl 1 vint v872.1,false),(339,.int .i64 ((v872.1.getD []).length:Int),false),(340,.int .i64 d890.2,false),(341,.bool false,false)],[.cells [(sl 1 vint q0_0,false),(sl 1 vint q0_1,false)],.cells [(.str v766.serial,false),(sl 1 vint v766.values,false)]]⟩):=l3_5 a0 p7 o7 p22 p25 q0_0 q0_1 s2 v766 v872 v876 h891
         rcases cond_split h with ⟨h892,h⟩ | ⟨h892,h⟩
         ·try simp only [h892] at wh831 wh869 wh891
          cases h
          exact stepO_in (st':=⟨[(0,sl 1 (sl 1 vint) a0,false),(7,sl 2 vunit p7,o7),(22,sl 2 vunit p22,false),(25,.int .i64 p25,false),(26,.ptr 0 0,false),(218,sl 2 vunit p22,false),(219,.int .i64 ((p22.getD []).length:Int),false),(220,.int .i64 (wrapF .i64 (s2 + 1)),false)],[.cells [(sl 1 vint q0_0,false),(sl 1 vint q0_1,false)]]++[.cells [(.str v766.serial,false),(sl 1 vint v766.values,false)]]⟩) (by simp only [go_sem,seval,c3_2,St3_2,h765,idxR_O h767,app_lit_O h769,app_lit_O h771,wh773,h774,h775,h776,idxR_O h778,wh831,wh833,h834,wh869,wh871,wh873,idxR_O h875,wh877,h878,h879,h880,wh891,h892] <;> rfl) (gc_over rfl rfl (by first | simp only [go_sem,seval,St3_2] | rfl) (by first | simp only [go_sem,seval,St3_2] | rfl))
         ·try simp only [h892] at wh831 wh869 wh891
          cases h
          exact stepO_out (by simp only [go_sem,seval,c3_2,St3_2,h765,idxR_O h767,app_lit_O h769,app_lit_O h771,wh773,h774,h775,h776,idxR_O h778,wh831,wh833,h834,wh869,wh871,wh873,idxR_O h875,wh877,h878,h879,h880,wh891,h892,Ex3_2] <;> rfl)
        ·try simp only [h880] at wh831 wh869
         cases h
         exact stepO_out (by simp only [go_sem,seval,c3_2,St3_2,h765,idxR_O h767,app_lit_O h769,app_lit_O h771,wh773,h774,h775,h776,idxR_O h778,wh831,wh833,h834,wh869,wh871,wh873,idxR_O h875,wh877,h878,h879,h880,Ex3_2] <;> rfl)
       ·try simp only [h879] at wh831 wh869
        cases h
        exact stepO_out (by simp only [go_sem,seval,c3_2,St3_2,h765,idxR_O h767,app_lit_O h769,app_lit_O h771,wh773,h774,h775,h776,idxR_O h778,wh831,wh833,h834,wh869,wh871,wh873,idxR_O h875,wh877,h878,h879,Ex3_2] <;> rfl)
      ·try simp only [h878] at wh831 wh869
       cases h
       exact stepO_out (by simp only [go_sem,seval,c3_2,St3_2,h765,idxR_O h767,app_lit_O h769,app_lit_O h771,wh773,h774,h775,h776,idxR_O h778,wh831,wh833,h834,wh869,wh871,wh873,idxR_O h875,wh877,h878,Ex3_2] <;> rfl)
     ·try simp only [h834] at wh831
      cases h
      exact stepO_out (by simp only [go_sem,seval,c3_2,St3_2,h765,idxR_O h767,app_lit_O h769,app_lit_O h771,wh773,h774,h775,h776,idxR_O h778,wh831,wh833,h834,Ex3_2] <;> rfl)
    ·cases h
     exact stepO_out (by simp only [go_sem,seval,c3_2,St3_2,h765,idxR_O h767,app_lit_O h769,app_lit_O h771,wh773,h774,h775,h776,Ex3_2] <;> rfl)
   ·obtain ⟨v893,h894,h⟩:=obind_some h
    obtain ⟨d946,h947,h⟩:=obind_some h
    have wh947:X prE (.loop c3_3) ⟨[(0,sl 1 (sl 1 vint) a0,false),(7,sl 2 vunit p7,o7),(22,sl 2 vunit p22,false),(25,.int .i64 p25,false),(26,.ptr 0 0,false),(28,.int .i64 s2,false),(29,.ptr 1 0,false),(30,sl 1 vint v772.1,false),(32,.list true 0 [],false),(218,sl 2 vunit p22,false),(219,.int .i64 ((p22.getD []).length:Int),false),(220,.int .i64 s2,false),(254,sl 1 vint v893,false),(255,.int .i64 ((v893.getD []).length:Int),false),(256,.int .i64 0,false)],[.cells [(sl 1 vint q0_0,false),(sl 1 vint q0_1,false)],.cells [(.str v766.serial,false),(sl 1 vint v766.values,false)]]⟩=some (.exit 6,⟨[(0,sl 1 (sl 1 vint) a0,false),(7,sl 2 vunit p7,o7),(22,sl 2 vunit p22,false),(25,.int .i64 p25,false),(26,.ptr 0 0,false),(28,.int .i64 s2,false),(29,.ptr 1 0,false),(30,sl 1 vint v772.1,false),(32,sl 1 vint d946.1,d946.2.1),(218,sl 2 vunit p22,false),(219,.int .i64 ((p22.getD []).length:Int),false),(220,.int .i64 s2,false),(254,sl 1 vint v893,false),(255,.int .i64 ((v893.getD []).length:Int),false),(256,.int .i64 d946.2.2,false),(257,.bool false,false)],[.cells [(sl 1 vint q0_0,false),(sl 1 vint q0_1,false)],.cells [(.str v766.serial,false),(sl 1 vint v766.values,false)]]⟩):=l3_3b a0 p7 o7 p22 p25 q0_0 q0_1 s2 v766 v772 v893 h947
    obtain ⟨v948,h949,h⟩:=obind_some h
    have wh949:callIso prE (X prE) 8 [sl 1 vint v772.1,sl 1 vint d946.1]=some (.bool v948,false):=Q8 h949
    rcases cond_split h with ⟨h950,h⟩ | ⟨h950,h⟩
    ·try simp only [h950] at wh947
     obtain ⟨d984,h985,h⟩:=obind_some h
     have wh985:X prE (.loop c3_4) ⟨[(0,sl 1 (sl 1 vint) a0,false),(7,sl 2 vunit p7,o7),(22,sl 2 vunit p22,false),(25,.int .i64 p25,false),(26,.ptr 0 0,false),(29,.ptr 1 0,false),(35,.list true 0 [],false),(218,sl 2 vunit p22,false),(219,.int .i64 ((p22.getD []).length:Int),false),(220,.int .i64 s2,false),(289,sl 1 vint v893,false),(290,.int .i64 ((v893.getD []).length:Int),false),(291,.int .i64 0,false)],[.cells [(sl 1 vint q0_0,false),(sl 1 vint q0_1,false)],.cells [(.str v766.serial,false),(sl 1 vint v766.values,false)]]⟩=some (.exit 8,⟨[(0,sl 1 (sl 1 vint) a0,false),(7,sl 2 vunit p7,o7),(22,sl 2 vunit p22,false),(25,.int .i64 p25,false),(26,.ptr 0 0,false),(29,.ptr 1 0,false),(35,sl 1 vint d984.1,d984.2.1),(218,sl 2 vunit p22,false),(219,.int .i64 ((p22.getD []).length:Int),false),(220,.int .i64 s2,false),(289,sl 1 vint v893,false),(290,.int .i64 ((v893.getD []).length:Int),false),(291,.int .i64 d984.2.2,false),(292,.bool false,false)],[.cells [(sl 1 vint q0_0,false),(sl 1 vint q0_1,false)],.cells [(.str v766.serial,false),(sl 1 vint v766.values,false)]]⟩):=l3_4b a0 p7 o7 p22 p25 q0_0 q0_1 s2 v766 v893 h985
     obtain ⟨v986,h987,h⟩:=obind_some h
     have wh987:callIso prE (X prE) 6 [sl 1 vint d984.1,.int .i64 8]=some (.tup [sl 1 vint v986.1,sl 1 vint v986.2.1,.int .i64 v986.2.2],false):=Q6 h987
     obtain ⟨v988,h989,h⟩:=obind_some h
     have wh989:callIso prE (X prE) 7 [sl 1 vint v986.1,sl 1 vint v986.2.1,.int .i64 8]=some (.tup [sl 1 vint v988.1,.int .i64 v988.2],false):=Q7 h989
     obtain ⟨v990,h991,h⟩:=obind_some h
     obtain ⟨v992,h993,h⟩:=obind_some h
     have wh993:callIso prE (X prE) 14 [.agg [.str v766.serial,sl 1 vint v766.values],.agg [.str v990.serial,sl 1 vint v990.values]]=some (.tup [.int .i64 v992.1,.int .i64 v992.2],false):=Q14 h993
     rcases cond_split h with ⟨h994,h⟩ | ⟨h994,h⟩
     ·try simp only [h994] at wh947 wh985
      rcases cond_split h with ⟨h995,h⟩ | ⟨h995,h⟩
      ·try simp only [h995] at wh947 wh985
       rcases cond_split h with ⟨h996,h⟩ | ⟨h996,h⟩
       ·try simp only [h996] at wh947 wh985
        obtain ⟨d1006,h1007,h⟩:=obind_some h
        have wh1007:X prE (.loop c3_5) ⟨[(0,sl 1 (sl 1 vint) a0,false),(7,sl 2 vunit p7,o7),(22,sl 2 vunit p22,false),(25,.int .i64 p25,false),(26,.ptr 0 0,false),(43,.int .i64 v992.1,false),(45,.int .i64 0,false),(218,sl 2 vunit p22,false),(219,.int .i64 ((p22.getD []).length:Int),false),(220,.int .i64 s2,false),(338,sl 1 vint v988.1,false),(339,.int .i64 ((v988.1.getD []).length:Int),false),(340,.int .i64 0,false)],[.cells [(sl 1 vint q0_0,false),(sl 1 vint q0_1,false)],.cells [(.str v766.serial,false),(sl 1 vint v766.values,false)]]⟩=some (.exit 10,⟨[(0,sl 1 (sl 1 vint) a0,false),(7,sl 2 vunit p7,o7),(22,sl 2 vunit p22,false),(25,.int .i64 p25,false),(26,.ptr 0 0,false),(43,.int .i64 v992.1,false),(45,.int .i64 d1006.1,false),(218,sl 2 vunit p22,false),(219,.int .i64 ((p22.getD []).length:Int),false),(220,.int .i64 s2,false),(338,sl 1 vint v988.1,false),(339,.int .i64 ((v988.1.getD []).length:Int),false),(340,.int .i64 d1006.2,false),(341,.bool false,false)],[.cells [(sl 1 vint q0_0,false),(sl 1 vint q0_1,false)],.cells [(.str v766.serial,false),(sl 1 vint v766.values,false)]]⟩):=l3_5b a0 p7 o7 p22 p25 q0_0 q0_1 s2 v766 v988 v992 h1007
        rcases cond_split h with ⟨h1008,h⟩ | ⟨h1008,h⟩
        ·try simp only [h1008] at wh947 wh985 wh1007
         cases h
         exact stepO_in (st':=⟨[(0,sl 1 (sl 1 vint) a0,false),(7,sl 2 vunit p7,o7),(22,sl 2 vunit p22,false),(25,.int .i64 p25,false),(26,.ptr 0 0,false),(218,sl 2 vunit p22,false),(219,.int .i64 ((p22.getD []).length:Int),false),(220,.int .i64 (wrapF .i64 (s2 + 1)),false)],[.cells [(sl 1 vint q0_0,false),(sl 1 vint q0_1,false)]]++[.cells [(.str v766.serial,false),(sl 1 vint v766.values,false)]]⟩) (by simp only [go_sem,seval,c3_2,St3_2,h765,idxR_O h767,app_lit_O h769,app_lit_O h771,wh773,h774,h775,idxR_O h894,wh947,wh949,h950,wh985,wh987,wh989,idxR_O h991,wh993,h994,h995,h996,wh1007,h1008] <;> rfl) (gc_over rfl rfl (by first | simp only [go_sem,seval,St3_2] | rfl) (by first | simp only [go_sem,seval,St3_2] | rfl))
        ·try simp only [h1008] at wh947 wh985 wh1007
         cases h
         exact stepO_out (by simp only [go_sem,seval,c3_2,St3_2,h765,idxR_O h767,app_lit_O h769,app_lit_O h771,wh773,h774,h775,idxR_O h894,wh947,wh949,h950,wh985,wh987,wh989,idxR_O h991,wh993,h994,h995,h996,wh1007,h1008,Ex3_2] <;> rfl)
       ·try simp only [h996] at wh947 wh985
        cases h
        exact stepO_out (by simp only [go_sem,seval,c3_2,St3_2,h765,idxR_O h767,app_lit_O h769,app_lit_O h771,wh773,h774,h775,idxR_O h894,wh947,wh949,h950,wh985,wh987,wh989,idxR_O h991,wh993,h994,h995,h996,Ex3_2] <;> rfl)
      ·try simp only [h995] at wh947 wh985
       cases h
       exact stepO_out (by simp only [go_sem,seval,c3_2,St3_2,h765,idxR_O h767,app_lit_O h769,app_lit_O h771,wh773,h774,h775,idxR_O h894,wh947,wh949,h950,wh985,wh987,wh989,idxR_O h991,wh993,h994,h995,Ex3_2] <;> rfl)
     ·try simp only [h994] at wh947 wh985
      cases h
      exact stepO_out (by simp only [go_sem,seval,c3_2,St3_2,h765,idxR_O h767,app_lit_O h769,app_lit_O h771,wh773,h774,h775,idxR_O h894,wh947,wh949,h950,wh985,wh987,wh989,idxR_O h991,wh993,h994,Ex3_2] <;> rfl)
    ·try simp only [h950] at wh947
     cases h
     exact stepO_out (by simp only [go_sem,seval,c3_2,St3_2,h765,idxR_O h767,app_lit_O h769,app_lit_O h771,wh773,h774,h775,idxR_O h894,wh947,wh949,h950,Ex3_2] <;> rfl)
  ·cases h
   exact stepO_out (by simp only [go_sem,seval,c3_2,St3_2,h765,idxR_O h767,app_lit_O h769,app_lit_O h771,wh773,h774,Ex3_2] <;> rfl)
 ·cases h
  exact stepO_out (by simp only [go_sem,seval,c3_2,St3_2,h765,Ex3_2] <;> rfl)
theorem l3_2 (a0:Option (List (Option (List Int)))) (p7:Option (List GUnit)) (o7:Bool) (p22:Option (List GUnit)) (p25:Int) (q0_0:Option (List Int)) (q0_1:Option (List Int)) {s2:Int} {d} (h:itO (s3_2 a0 p7 o7 p22 p25 q0_0 q0_1) s2=some d):X prE (.loop c3_2) (St3_2 a0 p7 o7 p22 p25 q0_0 q0_1 s2)=some (Ex3_2 a0 p7 o7 p22 p25 q0_0 q0_1 d):=X_itO (b3_2 a0 p7 o7 p22 p25 q0_0 q0_1) (fun d=>by rcases d with d|d <;> (intro hh; cases hh)) h
noncomputable def j3_12 (a0:Option (List (Option (List Int)))) (a1:Int) (a2:Int) (p50:Int) (p379:Bool) (q0_0:Option (List Int)) (q0_1:Option (List Int)):Option Bool:=
 cond p379
  (some false)
  (obind (remO ((a0.getD []).length:Int) 2) fun v1022=>
  cond (decide (p50=0) == decide (v1022=0))
   (obind (E5) fun v1025=>
   some v1025)
   (some false))
theorem J3_12 {a0:Option (List (Option (List Int)))} {a1:Int} {a2:Int} {p50:Int} {p379:Bool} {q0_0:Option (List Int)} {q0_1:Option (List Int)} {r} (h:j3_12 a0 a1 a2 p50 p379 q0_0 q0_1=some r):∃ hh,thenX (X prE c3_c12 ⟨[(0,sl 1 (sl 1 vint) a0,false),(50,.int .i64 p50,false),(379,.bool p379,false)],[.cells [(sl 1 vint q0_0,false),(sl 1 vint q0_1,false)]]⟩) (X prE c3_k13)=some (.ret,⟨[(6,.bool r,false)],hh⟩):=by
 unfold j3_12 at h
 rcases cond_split h with ⟨h1021,h⟩ | ⟨h1021,h⟩
 ·have hr:false=r:=Option.some.inj h
  subst hr
  refine ⟨[.cells [(sl 1 vint q0_0,false),(sl 1 vint q0_1,false)]],?_⟩
  simp only [go_sem,seval,c3_c12,c3_k13,h1021] <;> rfl
 ·obtain ⟨v1022,h1023,h⟩:=obind_some h
  rcases cond_split h with ⟨h1024,h⟩ | ⟨h1024,h⟩
  ·obtain ⟨v1025,h1026,h⟩:=obind_some h
   have wh1026:callIso prE (X prE) 5 []=some (.bool v1025,false):=Q5 h1026
   have hr:v1025=r:=Option.some.inj h
   subst hr
   refine ⟨[.cells [(sl 1 vint q0_0,false),(sl 1 vint q0_1,false)]],?_⟩
   simp only [go_sem,seval,c3_c12,c3_k13,h1021,b_rem_O h1023,h1024,wh1026] <;> rfl
  ·have hr:false=r:=Option.some.inj h
   subst hr
   refine ⟨[.cells [(sl 1 vint q0_0,false),(sl 1 vint q0_1,false)]],?_⟩
   simp only [go_sem,seval,c3_c12,c3_k13,h1021,b_rem_O h1023,h1024] <;> rfl
noncomputable def j3_8 (a0:Option (List (Option (List Int)))) (a1:Int) (a2:Int) (p7:Option (List GUnit)) (o7:Bool) (p22:Option (List GUnit)) (p25:Int) (p217:Bool) (q0_0:Option (List Int)) (q0_1:Option (List Int)):Option Bool:=
 cond p217
  (some false)
  (obind (itO (s3_2 a0 p7 o7 p22 p25 q0_0 q0_1) 0) fun d1009=>match d1009 with
   | .inl d1011=>
    some false
   | .inr d1012=>
    obind (f15 p22) fun v1013=>
    obind (f15 p7) fun v1015=>
    cond (decide (v1013.2.2=v1015.2.2))
     (cond (decide (v1013.2.1=v1015.2.1))
      (obind (f16 v1013.1 v1015.1) fun v1019=>
      j3_12 a0 a1 a2 v1013.2.2 (!v1019) q0_0 q0_1)
      (j3_12 a0 a1 a2 v1013.2.2 true q0_0 q0_1))
     (j3_12 a0 a1 a2 v1013.2.2 true q0_0 q0_1))
theorem J3_8 {a0:Option (List (Option (List Int)))} {a1:Int} {a2:Int} {p7:Option (List GUnit)} {o7:Bool} {p22:Option (List GUnit)} {p25:Int} {p217:Bool} {q0_0:Option (List Int)} {q0_1:Option (List Int)} {r} (h:j3_8 a0 a1 a2 p7 o7 p22 p25 p217 q0_0 q0_1=some r):∃ hh,thenX (X prE c3_c8 ⟨[(0,sl 1 (sl 1 vint) a0,false),(7,sl 2 vunit p7,o7),(22,sl 2 vunit p22,false),(25,.int .i64 p25,false),(26,.ptr 0 0,false),(217,.bool p217,false)],[.cells [(sl 1 vint q0_0,false),(sl 1 vint q0_1,false)]]⟩) (X prE c3_k9)=some (.ret,⟨[(6,.bool r,false)],hh⟩):=by
 unfold j3_8 at h
 rcases cond_split h with ⟨h230,h⟩ | ⟨h230,h⟩
 ·have hr:false=r:=Option.some.inj h
  subst hr
  refine ⟨[.cells [(sl 1 vint q0_0,false),(sl 1 vint q0_1,false)]],?_⟩
  simp only [go_sem,seval,c3_c8,c3_k9,h230] <;> rfl
 ·obtain ⟨d1009,h1010,h⟩:=obind_some h
  rcases d1009 with d1011 | d1012
  ·have wh1010:X prE (.loop c3_2) ⟨[(0,sl 1 (sl 1 vint) a0,false),(7,sl 2 vunit p7,o7),(22,sl 2 vunit p22,false),(25,.int .i64 p25,false),(26,.ptr 0 0,false),(218,sl 2 vunit p22,false),(219,.int .i64 ((p22.getD []).length:Int),false),(220,.int .i64 0,false)],[.cells [(sl 1 vint q0_0,false),(sl 1 vint q0_1,false)]]⟩=some (.ret,⟨[(6,.bool false,false)],[.cells [(sl 1 vint q0_0,false),(sl 1 vint q0_1,false)],.cells [(.str d1011.1,false),(sl 1 vint d1011.2,false)]]⟩):=l3_2 a0 p7 o7 p22 p25 q0_0 q0_1 h1010
   have hr:false=r:=Option.some.inj h
   subst hr
   refine ⟨[.cells [(sl 1 vint q0_0,false),(sl 1 vint q0_1,false)],.cells [(.str d1011.1,false),(sl 1 vint d1011.2,false)]],?_⟩
   simp only [go_sem,seval,c3_c8,c3_k9,h230,wh1010] <;> rfl
  ·have wh1010:X prE (.loop c3_2) ⟨[(0,sl 1 (sl 1 vint) a0,false),(7,sl 2 vunit p7,o7),(22,sl 2 vunit p22,false),(25,.int .i64 p25,false),(26,.ptr 0 0,false),(218,sl 2 vunit p22,false),(219,.int .i64 ((p22.getD []).length:Int),false),(220,.int .i64 0,false)],[.cells [(sl 1 vint q0_0,false),(sl 1 vint q0_1,false)]]⟩=some (.exit 4,⟨[(0,sl 1 (sl 1 vint) a0,false),(7,sl 2 vunit p7,o7),(22,sl 2 vunit p22,false),(25,.int .i64 p25,false),(26,.ptr 0 0,false),(218,sl 2 vunit p22,false),(219,.int .i64 ((p22.getD []).length:Int),false),(220,.int .i64 d1012,false),(221,.bool false,false)],[.cells [(sl 1 vint q0_0,false),(sl 1 vint q0_1,false)]]⟩):=l3_2 a0 p7 o7 p22 p25 q0_0 q0_1 h1010
   obtain ⟨v1013,h1014,h⟩:=obind_some h
   have wh1014:callIso prE (X prE) 15 [sl 2 vunit p22]=some (.tup [sl 2 vpair v1013.1,.int .i64 v1013.2.1,.int .i64 v1013.2.2],false):=Q15 h1014
   obtain ⟨v1015,h1016,h⟩:=obind_some h
   have wh1016:callIso prE (X prE) 15 [sl 2 vunit p7]=some (.tup [sl 2 vpair v1015.1,.int .i64 v1015.2.1,.int .i64 v1015.2.2],false):=Q15 h1016
   rcases cond_split h with ⟨h1017,h⟩ | ⟨h1017,h⟩
   ·rcases cond_split h with ⟨h1018,h⟩ | ⟨h1018,h⟩
    ·obtain ⟨v1019,h1020,h⟩:=obind_some h
     have wh1020:callIso prE (X prE) 16 [sl 2 vpair v1013.1,sl 2 vpair v1015.1]=some (.bool v1019,false):=Q16 h1020
     obtain ⟨hh,hk⟩:=J3_12 h
     refine ⟨hh,?_⟩
     simp only [go_sem,seval,c3_c8,c3_k9,h230,wh1010,wh1014,wh1016,h1017,h1018,wh1020]
     exact hk
    ·obtain ⟨hh,hk⟩:=J3_12 h
     refine ⟨hh,?_⟩
     simp only [go_sem,seval,c3_c8,c3_k9,h230,wh1010,wh1014,wh1016,h1017,h1018]
     exact hk
   ·obtain ⟨hh,hk⟩:=J3_12 h
    refine ⟨hh,?_⟩
    simp only [go_sem,seval,c3_c8,c3_k9,h230,wh1010,wh1014,wh1016,h1017]
    exact hk
noncomputable def j3_1 (a0:Option (List (Option (List Int)))) (a1:Int) (a2:Int) (p80:Bool):Option Bool:=
 cond p80
  (obind (E5) fun v10=>
  some v10)
  (obind (itO (s3_0 a0 a1 a2) (none,none,0,false,false)) fun d207=>match d207 with
   | .inl d209=>
    some d209
   | .inr d210=>
    obind (f10 d210.2.2.1) fun v211=>
    obind (f11 v211.1) fun v213=>
    obind (quoO .i64 (wrapF .i64 (((a0.getD []).length:Int) + 1)) 2) fun v215=>
    obind (cutSO d210.1 none (some v215)) fun v217=>
    obind (apO (some []) (v217.getD [])) fun v219=>
    obind (E12 v219 (wrapF .i64 a1)) fun v221=>
    cond (decide (v211.2=0))
     (cond (decide (v213.2.2=0))
      (cond (decide (v221.2=0))
       (cond (decide (((v213.1.getD []).length:Int)=((a0.getD []).length:Int)))
        (obind (idxO (a0.getD []) 0) fun v227=>
        cond (decide (((v221.1.least.getD []).length:Int)=((v227.getD []).length:Int)))
         (j3_8 a0 a1 a2 d210.1 d210.2.1 v213.1 v215 (!decide (((v221.1.most.getD []).length:Int)=((v227.getD []).length:Int))) v221.1.least v221.1.most)
         (j3_8 a0 a1 a2 d210.1 d210.2.1 v213.1 v215 true v221.1.least v221.1.most))
        (j3_8 a0 a1 a2 d210.1 d210.2.1 v213.1 v215 true v221.1.least v221.1.most))
       (j3_8 a0 a1 a2 d210.1 d210.2.1 v213.1 v215 true v221.1.least v221.1.most))
      (j3_8 a0 a1 a2 d210.1 d210.2.1 v213.1 v215 true v221.1.least v221.1.most))
     (j3_8 a0 a1 a2 d210.1 d210.2.1 v213.1 v215 true v221.1.least v221.1.most))
theorem J3_1 {a0:Option (List (Option (List Int)))} {a1:Int} {a2:Int} {p80:Bool} {r} (h:j3_1 a0 a1 a2 p80=some r):∃ hh,thenX (X prE c3_c1 ⟨[(0,sl 1 (sl 1 vint) a0,false),(1,.int .u8 a1,false),(2,.int .u8 a2,false),(80,.bool p80,false)],[]⟩) (X prE c3_k2)=some (.ret,⟨[(6,.bool r,false)],hh⟩):=by
 unfold j3_1 at h
 rcases cond_split h with ⟨h9,h⟩ | ⟨h9,h⟩
 ·obtain ⟨v10,h11,h⟩:=obind_some h
  have wh11:callIso prE (X prE) 5 []=some (.bool v10,false):=Q5 h11
  have hr:v10=r:=Option.some.inj h
  subst hr
  refine ⟨[],?_⟩
  simp only [go_sem,seval,c3_c1,c3_k2,h9,wh11] <;> rfl
 ·obtain ⟨d207,h208,h⟩:=obind_some h
  rcases d207 with d209 | d210
  ·have wh208:X prE (.loop c3_0) ⟨[(0,sl 1 (sl 1 vint) a0,false),(1,.int .u8 a1,false),(2,.int .u8 a2,false),(7,.list true 0 [],false),(8,.list true 0 [],false),(82,sl 1 (sl 1 vint) a0,false),(83,.int .i64 ((a0.getD []).length:Int),false),(84,.int .i64 0,false)],[]⟩=some (.ret,⟨[(6,.bool d209,false)],[]⟩):=l3_0 a0 a1 a2 h208
   have hr:d209=r:=Option.some.inj h
   subst hr
   refine ⟨[],?_⟩
   simp only [go_sem,seval,c3_c1,c3_k2,h9,wh208] <;> rfl
  ·have wh208:X prE (.loop c3_0) ⟨[(0,sl 1 (sl 1 vint) a0,false),(1,.int .u8 a1,false),(2,.int .u8 a2,false),(7,.list true 0 [],false),(8,.list true 0 [],false),(82,sl 1 (sl 1 vint) a0,false),(83,.int .i64 ((a0.getD []).length:Int),false),(84,.int .i64 0,false)],[]⟩=some (.exit 0,⟨[(0,sl 1 (sl 1 vint) a0,false),(1,.int .u8 a1,false),(2,.int .u8 a2,false),(7,sl 2 vunit d210.1,d210.2.1),(8,sl 2 vunit d210.2.2.1,d210.2.2.2.1),(82,sl 1 (sl 1 vint) a0,false),(83,.int .i64 ((a0.getD []).length:Int),false),(84,.int .i64 d210.2.2.2.2,false),(85,.bool false,false)],[]⟩):=l3_0 a0 a1 a2 h208
   obtain ⟨v211,h212,h⟩:=obind_some h
   have wh212:callIso prE (X prE) 10 [sl 2 vunit d210.2.2.1]=some (.tup [.str v211.1,.int .i64 v211.2],false):=Q10 h212
   obtain ⟨v213,h214,h⟩:=obind_some h
   have wh214:callIso prE (X prE) 11 [.str v211.1]=some (.tup [sl 2 vunit v213.1,.int .i64 v213.2.1,.int .i64 v213.2.2],false):=Q11 h214
   obtain ⟨v215,h216,h⟩:=obind_some h
   obtain ⟨v217,h218,h⟩:=obind_some h
   obtain ⟨v219,h220,h⟩:=obind_some h
   obtain ⟨v221,h222,h⟩:=obind_some h
   have wh222:callIso prE (X prE) 12 [sl 2 vunit v219,.int .i64 (wrapF .i64 a1)]=some (.tup [.agg [sl 1 vint v221.1.least,sl 1 vint v221.1.most],.int .i64 v221.2],false):=Q12 h222
   rcases cond_split h with ⟨h223,h⟩ | ⟨h223,h⟩
   ·rcases cond_split h with ⟨h224,h⟩ | ⟨h224,h⟩
    ·rcases cond_split h with ⟨h225,h⟩ | ⟨h225,h⟩
     ·rcases cond_split h with ⟨h226,h⟩ | ⟨h226,h⟩
      ·obtain ⟨v227,h228,h⟩:=obind_some h
       rcases cond_split h with ⟨h229,h⟩ | ⟨h229,h⟩
       ·obtain ⟨hh,hk⟩:=J3_8 h
        refine ⟨hh,?_⟩
        simp only [go_sem,seval,c3_c1,c3_k2,h9,wh208,wh212,wh214,b_quo_O h216,slCut_h h218,app_lit_O h220,wh222,h223,h224,h225,h226,idxR_O h228,h229]
        exact hk
       ·obtain ⟨hh,hk⟩:=J3_8 h
        refine ⟨hh,?_⟩
        simp only [go_sem,seval,c3_c1,c3_k2,h9,wh208,wh212,wh214,b_quo_O h216,slCut_h h218,app_lit_O h220,wh222,h223,h224,h225,h226,idxR_O h228,h229]
        exact hk
      ·obtain ⟨hh,hk⟩:=J3_8 h
       refine ⟨hh,?_⟩
       simp only [go_sem,seval,c3_c1,c3_k2,h9,wh208,wh212,wh214,b_quo_O h216,slCut_h h218,app_lit_O h220,wh222,h223,h224,h225,h226]
       exact hk
     ·obtain ⟨hh,hk⟩:=J3_8 h
      refine ⟨hh,?_⟩
      simp only [go_sem,seval,c3_c1,c3_k2,h9,wh208,wh212,wh214,b_quo_O h216,slCut_h h218,app_lit_O h220,wh222,h223,h224,h225]
      exact hk
    ·obtain ⟨hh,hk⟩:=J3_8 h
     refine ⟨hh,?_⟩
     simp only [go_sem,seval,c3_c1,c3_k2,h9,wh208,wh212,wh214,b_quo_O h216,slCut_h h218,app_lit_O h220,wh222,h223,h224]
     exact hk
   ·obtain ⟨hh,hk⟩:=J3_8 h
    refine ⟨hh,?_⟩
    simp only [go_sem,seval,c3_c1,c3_k2,h9,wh208,wh212,wh214,b_quo_O h216,slCut_h h218,app_lit_O h220,wh222,h223]
    exact hk
noncomputable def f3 (a0:Option (List (Option (List Int)))) (a1:Int) (a2:Int):Option Bool:=
 cond (decide (6 < ((a0.getD []).length:Int)))
  (j3_1 a0 a1 a2 true)
  (obind (f4 a0) fun v2=>
  cond (decide (v2=0))
   (cond (decide (((a0.getD []).length:Int)=0))
    (j3_1 a0 a1 a2 true)
    (obind (idxO (a0.getD []) 0) fun v6=>
    cond (decide (((v6.getD []).length:Int)=0))
     (j3_1 a0 a1 a2 true)
     (j3_1 a0 a1 a2 (decide (8 < ((v6.getD []).length:Int))))))
   (j3_1 a0 a1 a2 true))
theorem W3 {a0:Option (List (Option (List Int)))} {a1:Int} {a2:Int} {r} (h:f3 a0 a1 a2=some r):callIso prE (X prE) 3 [sl 1 (sl 1 vint) a0,.int .u8 a1,.int .u8 a2]=some (.bool r,false):=by
 unfold f3 at h
 rcases cond_split h with ⟨h1,h⟩ | ⟨h1,h⟩
 ·obtain ⟨hh,hk⟩:=J3_1 h
  have this:callFn prE (X prE) 3 [sl 1 (sl 1 vint) a0,.int .u8 a1,.int .u8 a2] []=some (.bool r,false,hh):=by
   rw [callFn_at (show prE.fns 3=some c3 from rfl) (by simp)]
   simp only [go_sem,seval,c3,h1]
   rw [hk]
   rfl
  exact callIso_of rfl this (by first | rfl | simp only [go_sem,seval]) (by first | rfl | simp only [go_sem,seval])
 ·obtain ⟨v2,h3,h⟩:=obind_some h
  have wh3:callIso prE (X prE) 4 [sl 1 (sl 1 vint) a0]=some (.int .i64 v2,false):=Q4 h3
  rcases cond_split h with ⟨h4,h⟩ | ⟨h4,h⟩
  ·rcases cond_split h with ⟨h5,h⟩ | ⟨h5,h⟩
   ·obtain ⟨hh,hk⟩:=J3_1 h
    have this:callFn prE (X prE) 3 [sl 1 (sl 1 vint) a0,.int .u8 a1,.int .u8 a2] []=some (.bool r,false,hh):=by
     rw [callFn_at (show prE.fns 3=some c3 from rfl) (by simp)]
     simp only [go_sem,seval,c3,h1,wh3,h4,h5]
     rw [hk]
     rfl
    exact callIso_of rfl this (by first | rfl | simp only [go_sem,seval]) (by first | rfl | simp only [go_sem,seval])
   ·obtain ⟨v6,h7,h⟩:=obind_some h
    rcases cond_split h with ⟨h8,h⟩ | ⟨h8,h⟩
    ·obtain ⟨hh,hk⟩:=J3_1 h
     have this:callFn prE (X prE) 3 [sl 1 (sl 1 vint) a0,.int .u8 a1,.int .u8 a2] []=some (.bool r,false,hh):=by
      rw [callFn_at (show prE.fns 3=some c3 from rfl) (by simp)]
      simp only [go_sem,seval,c3,h1,wh3,h4,h5,idxR_O h7,h8]
      rw [hk]
      rfl
     exact callIso_of rfl this (by first | rfl | simp only [go_sem,seval]) (by first | rfl | simp only [go_sem,seval])
    ·obtain ⟨hh,hk⟩:=J3_1 h
     have this:callFn prE (X prE) 3 [sl 1 (sl 1 vint) a0,.int .u8 a1,.int .u8 a2] []=some (.bool r,false,hh):=by
      rw [callFn_at (show prE.fns 3=some c3 from rfl) (by simp)]
      simp only [go_sem,seval,c3,h1,wh3,h4,h5,idxR_O h7,h8]
      rw [hk]
      rfl
     exact callIso_of rfl this (by first | rfl | simp only [go_sem,seval]) (by first | rfl | simp only [go_sem,seval])
  ·obtain ⟨hh,hk⟩:=J3_1 h
   have this:callFn prE (X prE) 3 [sl 1 (sl 1 vint) a0,.int .u8 a1,.int .u8 a2] []=some (.bool r,false,hh):=by
    rw [callFn_at (show prE.fns 3=some c3 from rfl) (by simp)]
    simp only [go_sem,seval,c3,h1,wh3,h4]
    rw [hk]
    rfl
   exact callIso_of rfl this (by first | rfl | simp only [go_sem,seval]) (by first | rfl | simp only [go_sem,seval])
end Go.Z
