/-
  LineProofs: the reference's functions, the checks: functions that mirror the runs, and the runs (printed by walk.py).
-/
import Derived.Test.YtbkpojiedkhfkaaGreatR4
set_option linter.unusedVariables false
set_option linter.unusedSimpArgs false
set_option maxRecDepth 100000
set_option maxHeartbeats 4000000
namespace Go.Z
open Go Go.Abs
noncomputable def f117 (a0:Int):Option Int:=
 obind (E23 a0 1 200001) fun v1=>
 some v1
theorem W117 {a0:Int} {r} (h:f117 a0=some r):callIso pr (X pr) 117 [.int .i64 a0]=some (.int .i64 r,false):=by
 unfold f117 at h
 obtain ⟨v1,h2,h⟩:=obind_some h
 have wh2:callIso pr (X pr) 88 [.int .i64 a0,.int .i64 1,.int .i64 200001]=some (.int .i64 v1,false):=WE88 h2
 have hr:v1=r:=Option.some.inj h
 subst hr
 have this:∃ hh,callFn pr (X pr) 117 [.int .i64 a0] []=some (.int .i64 v1,false,hh):=by
  rw [callFn_at (show pr.fns 117=some c117 from rfl) (by simp)]
  simp only [go_sem,seval,c117,wh2]
  exact ⟨_,rfl⟩
 obtain ⟨hh,this⟩:=this
 exact callIso_of rfl this (by first | rfl | simp only [go_sem,seval]) (by first | rfl | simp only [go_sem,seval])
noncomputable def f63 (a0:Int):Option Int:=
 obind (E23 a0 1 200001) fun v1=>
 some v1
theorem W63 {a0:Int} {r} (h:f63 a0=some r):callIso pr (X pr) 63 [.int .i64 a0]=some (.int .i64 r,false):=by
 unfold f63 at h
 obtain ⟨v1,h2,h⟩:=obind_some h
 have wh2:callIso pr (X pr) 23 [.int .i64 a0,.int .i64 1,.int .i64 200001]=some (.int .i64 v1,false):=WE23 h2
 have hr:v1=r:=Option.some.inj h
 subst hr
 have this:∃ hh,callFn pr (X pr) 63 [.int .i64 a0] []=some (.int .i64 v1,false,hh):=by
  rw [callFn_at (show pr.fns 63=some c63 from rfl) (by simp)]
  simp only [go_sem,seval,c63,wh2]
  exact ⟨_,rfl⟩
 obtain ⟨hh,this⟩:=this
 exact callIso_of rfl this (by first | rfl | simp only [go_sem,seval]) (by first | rfl | simp only [go_sem,seval])
noncomputable def f143 (a0:Option (List Int)) (a1:Int):Option Bool:=
 obind (f116 a0 a1) fun v1=>
 some (decide (0≤v1))
theorem W143 {a0:Option (List Int)} {a1:Int} {r} (h:f143 a0 a1=some r):callIso pr (X pr) 143 [sl 1 vint a0,.int .i64 a1]=some (.bool r,false):=by
 unfold f143 at h
 obtain ⟨v1,h2,h⟩:=obind_some h
 have wh2:callIso pr (X pr) 116 [sl 1 vint a0,.int .i64 a1]=some (.int .i64 v1,false):=W116 h2
 have hr:decide (0≤v1)=r:=Option.some.inj h
 subst hr
 have this:∃ hh,callFn pr (X pr) 143 [sl 1 vint a0,.int .i64 a1] []=some (.bool (decide (0≤v1)),false,hh):=by
  rw [callFn_at (show pr.fns 143=some c143 from rfl) (by simp)]
  simp only [go_sem,seval,c143,wh2]
  exact ⟨_,rfl⟩
 obtain ⟨hh,this⟩:=this
 exact callIso_of rfl this (by first | rfl | simp only [go_sem,seval]) (by first | rfl | simp only [go_sem,seval])
noncomputable def s121_2 (a0:Option (List GUnit)) (a1:Int) (s0:(Option (List Int)) × Int × Int) (s1:(Option (List Int)) × (Option (List Int)) × Int) (s2:(Option (List Int)) × (Option (List Int)) × Int):Option (((Option (List Int)) × (Option (List Int)) × Int) ⊕ (((Option (List Int)) × (Option (List Int)) × Int))):=
 cond (decide (s2.2.2 < ((a0.getD []).length:Int)))
  (obind (f124 s2.1 s2.2.2) fun v483=>
  cond v483
   (some (.inl (s2.1,s2.2.1,wrapF .i64 (s2.2.2 + 1))))
   (obind (idxO (s2.2.1.getD []) s1.2.2) fun v486=>
   obind (idxO (a0.getD []) v486) fun v488=>
   obind (idxO (a0.getD []) s2.2.2) fun v490=>
   obind (f68 v488 v490) fun v492=>
   cond (decide (v492 < a1))
    (obind (apO s2.2.1 [s2.2.2]) fun v495=>
    obind (apO s2.1 [s2.2.2]) fun v497=>
    some (.inl (v497,v495,wrapF .i64 (s2.2.2 + 1))))
    (some (.inl (s2.1,s2.2.1,wrapF .i64 (s2.2.2 + 1))))))
  (some (.inr (s2.1,s2.2.1,s2.2.2)))
noncomputable def s121_1 (a0:Option (List GUnit)) (a1:Int) (s0:(Option (List Int)) × Int × Int) (s1:(Option (List Int)) × (Option (List Int)) × Int):Option (((Option (List Int)) × (Option (List Int)) × Int) ⊕ (((Option (List Int)) × (Option (List Int)) × Int))):=
 cond (decide (s1.2.2 < ((s1.2.1.getD []).length:Int)))
  (obind (itO (s121_2 a0 a1 s0 s1) (s1.1,s1.2.1,0)) fun d499=>
  some (.inl (d499.1,d499.2.1,wrapF .i64 (s1.2.2 + 1))))
  (some (.inr (s1.1,s1.2.1,s1.2.2)))
noncomputable def s121_0 (a0:Option (List GUnit)) (a1:Int) (s0:(Option (List Int)) × Int × Int):Option (((Option (List Int)) × Int × Int) ⊕ (((Option (List Int)) × Int × Int))):=
 cond (decide (s0.2.2 < ((a0.getD []).length:Int)))
  (obind (f124 s0.1 s0.2.2) fun v338=>
  cond v338
   (some (.inl (s0.1,s0.2.1,wrapF .i64 (s0.2.2 + 1))))
   (obind (apO s0.1 [s0.2.2]) fun v341=>
   obind (itO (s121_1 a0 a1 s0) (v341,some [s0.2.2],0)) fun d501=>
   obind (remO ((d501.2.1.getD []).length:Int) 2) fun v503=>
   some (.inl (d501.1,wrapF .i64 (s0.2.1 + v503),wrapF .i64 (s0.2.2 + 1)))))
  (some (.inr (s0.1,s0.2.1,s0.2.2)))
noncomputable def f121 (a0:Option (List GUnit)) (a1:Int) (a2:Option (List Int)):Option Int:=
 obind (apO (some []) (a2.getD [])) fun v1=>
 obind (itO (s121_0 a0 a1) (v1,0,0)) fun d505=>
 some d505.2.1
noncomputable def s120_0 (a0:Option (List GUnit)) (a1:Int) (a2:Int) (a3:Option (List Int)) (rec:(Option (List GUnit))→Int→Int→(Option (List Int))→Option ((Option (List Int)) × Bool)) (s0:Int):Option (Int ⊕ ((Option (List Int)) ⊕ Int)):=
 cond (decide (s0 < ((a0.getD []).length:Int)))
  (obind (apO (some []) (a3.getD [])) fun v24=>
  obind (apO v24 [s0]) fun v26=>
  obind (rec a0 a1 a2 v26) fun v28=>
  cond v28.2
   (some (.inr (.inl v28.1)))
   (some (.inl (wrapF .i64 (s0 + 1)))))
  (some (.inr (.inr s0)))
noncomputable def s120_0b (a0:Option (List GUnit)) (a1:Int) (a2:Int) (a3:Option (List Int)) (rec:(Option (List GUnit))→Int→Int→(Option (List Int))→Option ((Option (List Int)) × Bool)) (s0:Int):Option (Int ⊕ ((Option (List Int)) ⊕ Int)):=
 cond (decide (s0 < ((a0.getD []).length:Int)))
  (obind (apO (some []) (a3.getD [])) fun v52=>
  obind (apO v52 [s0]) fun v54=>
  obind (rec a0 a1 a2 v54) fun v56=>
  cond v56.2
   (some (.inr (.inl v56.1)))
   (some (.inl (wrapF .i64 (s0 + 1)))))
  (some (.inr (.inr s0)))
noncomputable def F120 (rec:(Option (List GUnit))→Int→Int→(Option (List Int))→Option ((Option (List Int)) × Bool)) (a0:Option (List GUnit)) (a1:Int) (a2:Int) (a3:Option (List Int)):Option ((Option (List Int)) × Bool):=
 cond (decide (((a3.getD []).length:Int)=a2))
  (obind (f121 a0 a1 a3) fun v2=>
  some (a3,decide (a2 < v2)))
  (cond (decide (0 < ((a3.getD []).length:Int)))
   (obind (idxO (a3.getD []) (wrapF .i64 (((a3.getD []).length:Int) - 1))) fun v5=>
   obind (itO (s120_0 a0 a1 a2 a3 rec) (wrapF .i64 (v5 + 1))) fun d31=>match d31 with
    | .inl d33=>
     some (d33,true)
    | .inr d34=>
     some (none,false))
   (obind (itO (s120_0b a0 a1 a2 a3 rec) 0) fun d59=>match d59 with
    | .inl d61=>
     some (d61,true)
    | .inr d62=>
     some (none,false)))
noncomputable def f120:Nat→(Option (List GUnit))→Int→Int→(Option (List Int))→Option ((Option (List Int)) × Bool)
 | 0=>fun _ _ _ _=>none
 | n + 1=>F120 (f120 n)
end Go.Z
/-
 LineProofs: the reference's functions,the checks,second part: functions that mirror the runs,and the runs (printed by walk.py).
-/
namespace Go.Z
open Go Go.Abs
noncomputable def s64_0 (a0:Option (List GUnit)) (a1:Int) (s0:Int):Option (Int ⊕ ((Option (List Int)) ⊕ Int)):=
 cond (decide (s0≤((a0.getD []).length:Int)))
  (obind (f120 12 a0 a1 s0 none) fun v10=>
  cond v10.2
   (some (.inr (.inl v10.1)))
   (some (.inl (wrapF .i64 (s0 + 1)))))
  (some (.inr (.inr s0)))
noncomputable def f64 (a0:Option (List GUnit)) (a1:Int):Option ((Option (List Int)) × Int):=
 obind (itO (s64_0 a0 a1) 0) fun d13=>match d13 with
  | .inl d15=>
   some (d15,0)
  | .inr d16=>
   some (none,7)
end Go.Z
