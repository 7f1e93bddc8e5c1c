/-
  Pairs: functions that mirror the runs, and the runs, second part (printed by walk.py).
-/
import Derived.Test.YtbjckbpblomblaaR1
set_option linter.unusedVariables false
set_option linter.unusedSimpArgs false
set_option maxRecDepth 100000
set_option maxHeartbeats 4000000
namespace Go.Z
open Go Go.Abs
noncomputable def s38_0 (a0:Option (List (Option (List Int)))) (s1000:Int × Int):Option ((Int × Int) ⊕ ((Int × Int))):=
 cond (decide (s1000.2 < ((a0.getD []).length:Int)))
  (obind (idxO (a0.getD []) s1000.2) fun v10=>
  cond (decide ((wrapF .i64 (s1000.1 + ((v10.getD []).length:Int))) < 0))
   (none)
   (some (.inl (wrapF .i64 (s1000.1 + ((v10.getD []).length:Int)),wrapF .i64 (s1000.2 + 1)))))
  (some (.inr (s1000.1,s1000.2)))
def St38_0 (a0:Option (List (Option (List Int)))) (s1000:Int × Int):ASt:=⟨[(0,sl 1 (sl 1 vint) a0,false),(3,.int .i64 s1000.1,false),(9,sl 1 (sl 1 vint) a0,false),(10,.int .i64 ((a0.getD []).length:Int),false),(11,.int .i64 s1000.2,false)],[]⟩
def Ex38_0 (a0:Option (List (Option (List Int)))) (d:(Int × Int)):AExit × ASt:=(.exit 0,⟨[(0,sl 1 (sl 1 vint) a0,false),(3,.int .i64 d.1,false),(9,sl 1 (sl 1 vint) a0,false),(10,.int .i64 ((a0.getD []).length:Int),false),(11,.int .i64 d.2,false),(12,.bool false,false)],[]⟩)
theorem b38_0 (a0:Option (List (Option (List Int)))) (s1000:Int × Int) (r) (h:s38_0 a0 s1000=some r):stepO pr c38_0 (St38_0 a0) (Ex38_0 a0) s1000 r:=by
 unfold s38_0 at h
 rcases cond_split h with ⟨h9,h⟩ | ⟨h9,h⟩
 ·obtain ⟨v10,h11,h⟩:=obind_some h
  rcases cond_split h with ⟨h12,h⟩ | ⟨h12,h⟩
  ·cases h
  ·cases h
   exact stepO_in (st':=⟨[(0,sl 1 (sl 1 vint) a0,false),(3,.int .i64 (wrapF .i64 (s1000.1 + ((v10.getD []).length:Int))),false),(9,sl 1 (sl 1 vint) a0,false),(10,.int .i64 ((a0.getD []).length:Int),false),(11,.int .i64 (wrapF .i64 (s1000.2 + 1)),false)],[]⟩) (by simp only [go_sem,seval,c38_0,St38_0,h9,idxR_O h11,h12] <;> rfl) (gc_same (Nat.le_refl _))
 ·cases h
  exact stepO_out (by simp only [go_sem,seval,c38_0,St38_0,h9,Ex38_0] <;> rfl)
theorem l38_0 (a0:Option (List (Option (List Int)))) {s1000:Int × Int} {d} (h:itO (s38_0 a0) s1000=some d):X pr (.loop c38_0) (St38_0 a0 s1000)=some (Ex38_0 a0 d):=X_itO (b38_0 a0) (fun d hh=>by cases hh) h
noncomputable def s38_1 (a0:Option (List (Option (List Int)))) (s1001:(Option (List Int)) × Int × Bool):Option (((Option (List Int)) × Int × Bool) ⊕ (((Option (List Int)) × Bool × Int))):=
 cond (decide (s1001.2.1 < ((a0.getD []).length:Int)))
  (obind (idxO (a0.getD []) s1001.2.1) fun v36=>
  cond s1001.2.2
   (obind (apO s1001.1 (v36.getD [])) fun v39=>
   some (.inl (v39,wrapF .i64 (s1001.2.1 + 1),true)))
   (cond s1001.1.isNone
    (obind (apO s1001.1 (v36.getD [])) fun v42=>
    some (.inl (v42,wrapF .i64 (s1001.2.1 + 1),true)))
    (none)))
  (some (.inr (s1001.1,s1001.2.2,s1001.2.1)))
def St38_1 (a0:Option (List (Option (List Int)))) (s1001:(Option (List Int)) × Int × Bool):ASt:=⟨[(6,sl 1 vint s1001.1,s1001.2.2),(25,sl 1 (sl 1 vint) a0,false),(26,.int .i64 ((a0.getD []).length:Int),false),(27,.int .i64 s1001.2.1,false)],[]⟩
def Ex38_1 (a0:Option (List (Option (List Int)))) (d:((Option (List Int)) × Bool × Int)):AExit × ASt:=(.exit 2,⟨[(6,sl 1 vint d.1,d.2.1),(25,sl 1 (sl 1 vint) a0,false),(26,.int .i64 ((a0.getD []).length:Int),false),(27,.int .i64 d.2.2,false),(28,.bool false,false)],[]⟩)
theorem b38_1 (a0:Option (List (Option (List Int)))) (s1001:(Option (List Int)) × Int × Bool) (r) (h:s38_1 a0 s1001=some r):stepO pr c38_1 (St38_1 a0) (Ex38_1 a0) s1001 r:=by
 unfold s38_1 at h
 rcases cond_split h with ⟨h35,h⟩ | ⟨h35,h⟩
 ·obtain ⟨v36,h37,h⟩:=obind_some h
  rcases cond_split h with ⟨h38,h⟩ | ⟨h38,h⟩
  ·obtain ⟨v39,h40,h⟩:=obind_some h
   cases h
   exact stepO_in (st':=⟨[(6,sl 1 vint v39,true),(25,sl 1 (sl 1 vint) a0,false),(26,.int .i64 ((a0.getD []).length:Int),false),(27,.int .i64 (wrapF .i64 (s1001.2.1 + 1)),false)],[]⟩) (by simp only [go_sem,seval,c38_1,St38_1,h35,idxR_O h37,h38,app_sl_O h40] <;> rfl) (gc_same (Nat.le_refl _))
  ·rcases cond_split h with ⟨h41,h⟩ | ⟨h41,h⟩
   ·obtain ⟨v42,h43,h⟩:=obind_some h
    cases h
    exact stepO_in (st':=⟨[(6,sl 1 vint v42,true),(25,sl 1 (sl 1 vint) a0,false),(26,.int .i64 ((a0.getD []).length:Int),false),(27,.int .i64 (wrapF .i64 (s1001.2.1 + 1)),false)],[]⟩) (by simp only [go_sem,seval,c38_1,St38_1,h35,idxR_O h37,h38,h41,app_sl_N h43 h41] <;> rfl) (gc_same (Nat.le_refl _))
   ·cases h
 ·cases h
  exact stepO_out (by simp only [go_sem,seval,c38_1,St38_1,h35,Ex38_1] <;> rfl)
theorem l38_1 (a0:Option (List (Option (List Int)))) {s1001:(Option (List Int)) × Int × Bool} {d} (h:itO (s38_1 a0) s1001=some d):X pr (.loop c38_1) (St38_1 a0 s1001)=some (Ex38_1 a0 d):=X_itO (b38_1 a0) (fun d hh=>by cases hh) h
noncomputable def f38 (a0:Option (List (Option (List Int)))):Option ((Option (List Int)) × Bool):=
 obind (itO (s38_0 a0) (0,0)) fun d13=>
 obind (E64 none d13.1) fun v15=>
 obind (itO (s38_1 a0) (v15.1,0,v15.2)) fun d44=>
 some (d44.1,d44.2.1)
theorem W38 {a0:Option (List (Option (List Int)))} {r} (h:f38 a0=some r):callIso pr (X pr) 38 [sl 1 (sl 1 vint) a0]=some (sl 1 vint r.1,r.2):=by
 unfold f38 at h
 obtain ⟨d13,h14,h⟩:=obind_some h
 have wh14:X pr (.loop c38_0) ⟨[(0,sl 1 (sl 1 vint) a0,false),(3,.int .i64 0,false),(9,sl 1 (sl 1 vint) a0,false),(10,.int .i64 ((a0.getD []).length:Int),false),(11,.int .i64 0,false)],[]⟩=some (.exit 0,⟨[(0,sl 1 (sl 1 vint) a0,false),(3,.int .i64 d13.1,false),(9,sl 1 (sl 1 vint) a0,false),(10,.int .i64 ((a0.getD []).length:Int),false),(11,.int .i64 d13.2,false),(12,.bool false,false)],[]⟩):=l38_0 a0 h14
 obtain ⟨v15,h16,h⟩:=obind_some h
 have wh16:callIso pr (X pr) 64 [.list true 0 [],.int .i64 d13.1]=some (sl 1 vint v15.1,v15.2):=WE64 h16
 obtain ⟨d44,h45,h⟩:=obind_some h
 have wh45:X pr (.loop c38_1) ⟨[(6,sl 1 vint v15.1,v15.2),(25,sl 1 (sl 1 vint) a0,false),(26,.int .i64 ((a0.getD []).length:Int),false),(27,.int .i64 0,false)],[]⟩=some (.exit 2,⟨[(6,sl 1 vint d44.1,d44.2.1),(25,sl 1 (sl 1 vint) a0,false),(26,.int .i64 ((a0.getD []).length:Int),false),(27,.int .i64 d44.2.2,false),(28,.bool false,false)],[]⟩):=l38_1 a0 h45
 have hr:(d44.1,d44.2.1)=r:=Option.some.inj h
 subst hr
 have this:∃ hh,callFn pr (X pr) 38 [sl 1 (sl 1 vint) a0] []=some (sl 1 vint d44.1,d44.2.1,hh):=by
  rw [callFn_at (show pr.fns 38=some c38 from rfl) (by simp)]
  simp only [go_sem,seval,c38,wh14,wh16,wh45]
  exact ⟨_,rfl⟩
 obtain ⟨hh,this⟩:=this
 exact callIso_of_dyn rfl this (by first | rfl | simp only [go_sem,seval]) (by first | rfl | simp only [go_sem,seval]) (by first | rfl | simp only [go_sem,seval])
noncomputable def s21_0 (a1:Option (List Int)) (a2:Option (List GPair)) (c1000_0:Option (List GUnit)) (rec:(Option (List Int))→(Option (List GPair))→(Option (List GUnit))→(Option (List GPair))→Bool→Int→Bool→Option ((Option (List GPair)) × Int × Bool × Bool)) (v11:Int) (s1000:Int × (Option (List GPair)) × Int × Bool × Bool):Option ((Int × (Option (List GPair)) × Int × Bool × Bool) ⊕ ((Int × (Option (List GPair)) × Bool × Int × Bool))):=
 cond (decide (s1000.1 < ((a1.getD []).length:Int)))
  (obind (cutSO a1 (some 1) (some s1000.1)) fun v58=>
  obind (cutSO a1 (some (wrapF .i64 (s1000.1 + 1))) none) fun v60=>
  obind (f38 (some [v58,v60])) fun v62=>
  cond a2.isNone
   (obind (E37n a2) fun v65=>
   obind (idxO (a1.getD []) s1000.1) fun v67=>
   obind (rec v62.1 (some [⟨v11,v67⟩]) c1000_0 s1000.2.1 s1000.2.2.2.2 s1000.2.2.1 s1000.2.2.2.1) fun v69=>
   some (.inl (wrapF .i64 (s1000.1 + 1),v69.1,v69.2.1,v69.2.2.1,v69.2.2.2)))
   (obind (E37 a2) fun v71=>
   obind (idxO (a1.getD []) s1000.1) fun v73=>
   obind (apO v71 [⟨v11,v73⟩]) fun v75=>
   obind (rec v62.1 v75 c1000_0 s1000.2.1 s1000.2.2.2.2 s1000.2.2.1 s1000.2.2.2.1) fun v77=>
   some (.inl (wrapF .i64 (s1000.1 + 1),v77.1,v77.2.1,v77.2.2.1,v77.2.2.2))))
  (some (.inr (s1000.1,s1000.2.1,s1000.2.2.2.2,s1000.2.2.1,s1000.2.2.2.1)))
def St21_0 (a1:Option (List Int)) (a2:Option (List GPair)) (c1000_0:Option (List GUnit)) (rec:(Option (List Int))→(Option (List GPair))→(Option (List GUnit))→(Option (List GPair))→Bool→Int→Bool→Option ((Option (List GPair)) × Int × Bool × Bool)) (v11:Int) (s1000:Int × (Option (List GPair)) × Int × Bool × Bool):ASt:=⟨[(0,.ptr 0 0,false),(1,sl 1 vint a1,false),(2,sl 2 vpair a2,false),(7,.int .i64 v11,false),(8,.int .i64 s1000.1,false)],[.cells [(sl 2 vunit c1000_0,false),(sl 2 vpair s1000.2.1,s1000.2.2.2.2),(.int .i64 s1000.2.2.1,false),(.bool s1000.2.2.2.1,false)]]⟩
def Ex21_0 (a1:Option (List Int)) (a2:Option (List GPair)) (c1000_0:Option (List GUnit)) (rec:(Option (List Int))→(Option (List GPair))→(Option (List GUnit))→(Option (List GPair))→Bool→Int→Bool→Option ((Option (List GPair)) × Int × Bool × Bool)) (v11:Int) (d:(Int × (Option (List GPair)) × Bool × Int × Bool)):AExit × ASt:=(.exit 0,⟨[(0,.ptr 0 0,false),(1,sl 1 vint a1,false),(2,sl 2 vpair a2,false),(7,.int .i64 v11,false),(8,.int .i64 d.1,false),(49,.bool false,false)],[.cells [(sl 2 vunit c1000_0,false),(sl 2 vpair d.2.1,d.2.2.1),(.int .i64 d.2.2.2.1,false),(.bool d.2.2.2.2,false)]]⟩)
theorem b21_0 (a1:Option (List Int)) (a2:Option (List GPair)) (c1000_0:Option (List GUnit)) (rec:(Option (List Int))→(Option (List GPair))→(Option (List GUnit))→(Option (List GPair))→Bool→Int→Bool→Option ((Option (List GPair)) × Int × Bool × Bool)) (v11:Int) (hrec:∀ {a1:Option (List Int)} {a2:Option (List GPair)} {c1000_0:Option (List GUnit)} {c1000_1:Option (List GPair)} {o0_1:Bool} {c1000_2:Int} {c1000_3:Bool} {r},rec a1 a2 c1000_0 c1000_1 o0_1 c1000_2 c1000_3=some r→callFn pr (X pr) 21 [.ptr 0 0,sl 1 vint a1,sl 2 vpair a2] [.cells [(sl 2 vunit c1000_0,false),(sl 2 vpair c1000_1,o0_1),(.int .i64 c1000_2,false),(.bool c1000_3,false)]]=some (.tup [],false,[.cells [(sl 2 vunit c1000_0,false),(sl 2 vpair r.1,r.2.2.2),(.int .i64 r.2.1,false),(.bool r.2.2.1,false)]])) (s1000:Int × (Option (List GPair)) × Int × Bool × Bool) (r) (h:s21_0 a1 a2 c1000_0 rec v11 s1000=some r):stepO pr c21_0 (St21_0 a1 a2 c1000_0 rec v11) (Ex21_0 a1 a2 c1000_0 rec v11) s1000 r:=by
 unfold s21_0 at h
 rcases cond_split h with ⟨h57,h⟩ | ⟨h57,h⟩
 ·obtain ⟨v58,h59,h⟩:=obind_some h
  obtain ⟨v60,h61,h⟩:=obind_some h
  obtain ⟨v62,h63,h⟩:=obind_some h
  have wh63:callIso pr (X pr) 38 [.list false 1 [sl 1 vint v58,sl 1 vint v60]]=some (sl 1 vint v62.1,v62.2):=W38 h63
  rcases cond_split h with ⟨h64,h⟩ | ⟨h64,h⟩
  ·obtain ⟨v65,h66,h⟩:=obind_some h
   have wh66:callIso pr (X pr) 37 [sl 2 vpair a2]=some (.list true 0 [],false):=WE37n h66
   obtain ⟨v67,h68,h⟩:=obind_some h
   obtain ⟨v69,h70,h⟩:=obind_some h
   have wh70:callFn pr (X pr) 21 [.ptr 0 0,sl 1 vint v62.1,.list false 2 [.agg [.int .i64 v11,.int .i64 v67]]] [.cells [(sl 2 vunit c1000_0,false),(sl 2 vpair s1000.2.1,s1000.2.2.2.2),(.int .i64 s1000.2.2.1,false),(.bool s1000.2.2.2.1,false)]]=some (.tup [],false,[.cells [(sl 2 vunit c1000_0,false),(sl 2 vpair v69.1,v69.2.2.2),(.int .i64 v69.2.1,false),(.bool v69.2.2.1,false)]]):=hrec h70
   cases h
   exact stepO_in (st':=⟨[(0,.ptr 0 0,false),(1,sl 1 vint a1,false),(2,sl 2 vpair a2,false),(7,.int .i64 v11,false),(8,.int .i64 (wrapF .i64 (s1000.1 + 1)),false)],[.cells [(sl 2 vunit c1000_0,false),(sl 2 vpair v69.1,v69.2.2.2),(.int .i64 v69.2.1,false),(.bool v69.2.2.1,false)]]⟩) (by simp only [go_sem,seval,c21_0,St21_0,h57,slCut_lh h59,slCut_l h61,wh63,h64,wh66,idxR_O h68,wh70] <;> rfl) (gc_same (Nat.le_refl _))
  ·obtain ⟨v71,h72,h⟩:=obind_some h
   have wh72:callIso pr (X pr) 37 [sl 2 vpair a2]=some (sl 2 vpair v71,true):=WE37 h72
   obtain ⟨v73,h74,h⟩:=obind_some h
   obtain ⟨v75,h76,h⟩:=obind_some h
   obtain ⟨v77,h78,h⟩:=obind_some h
   have wh78:callFn pr (X pr) 21 [.ptr 0 0,sl 1 vint v62.1,sl 2 vpair v75] [.cells [(sl 2 vunit c1000_0,false),(sl 2 vpair s1000.2.1,s1000.2.2.2.2),(.int .i64 s1000.2.2.1,false),(.bool s1000.2.2.2.1,false)]]=some (.tup [],false,[.cells [(sl 2 vunit c1000_0,false),(sl 2 vpair v77.1,v77.2.2.2),(.int .i64 v77.2.1,false),(.bool v77.2.2.1,false)]]):=hrec h78
   cases h
   exact stepO_in (st':=⟨[(0,.ptr 0 0,false),(1,sl 1 vint a1,false),(2,sl 2 vpair a2,false),(7,.int .i64 v11,false),(8,.int .i64 (wrapF .i64 (s1000.1 + 1)),false)],[.cells [(sl 2 vunit c1000_0,false),(sl 2 vpair v77.1,v77.2.2.2),(.int .i64 v77.2.1,false),(.bool v77.2.2.1,false)]]⟩) (by simp only [go_sem,seval,c21_0,St21_0,h57,slCut_lh h59,slCut_l h61,wh63,h64,wh72,idxR_O h74,app_vpair_O h76,wh78] <;> rfl) (gc_same (Nat.le_refl _))
 ·cases h
  exact stepO_out (by simp only [go_sem,seval,c21_0,St21_0,h57,Ex21_0] <;> rfl)
theorem l21_0 (a1:Option (List Int)) (a2:Option (List GPair)) (c1000_0:Option (List GUnit)) (rec:(Option (List Int))→(Option (List GPair))→(Option (List GUnit))→(Option (List GPair))→Bool→Int→Bool→Option ((Option (List GPair)) × Int × Bool × Bool)) (v11:Int) (hrec:∀ {a1:Option (List Int)} {a2:Option (List GPair)} {c1000_0:Option (List GUnit)} {c1000_1:Option (List GPair)} {o0_1:Bool} {c1000_2:Int} {c1000_3:Bool} {r},rec a1 a2 c1000_0 c1000_1 o0_1 c1000_2 c1000_3=some r→callFn pr (X pr) 21 [.ptr 0 0,sl 1 vint a1,sl 2 vpair a2] [.cells [(sl 2 vunit c1000_0,false),(sl 2 vpair c1000_1,o0_1),(.int .i64 c1000_2,false),(.bool c1000_3,false)]]=some (.tup [],false,[.cells [(sl 2 vunit c1000_0,false),(sl 2 vpair r.1,r.2.2.2),(.int .i64 r.2.1,false),(.bool r.2.2.1,false)]])) {s1000:Int × (Option (List GPair)) × Int × Bool × Bool} {d} (h:itO (s21_0 a1 a2 c1000_0 rec v11) s1000=some d):X pr (.loop c21_0) (St21_0 a1 a2 c1000_0 rec v11 s1000)=some (Ex21_0 a1 a2 c1000_0 rec v11 d):=X_itO (b21_0 a1 a2 c1000_0 rec v11 hrec) (fun d hh=>by cases hh) h
noncomputable def s21_0b (a1:Option (List Int)) (a2:Option (List GPair)) (c1000_0:Option (List GUnit)) (rec:(Option (List Int))→(Option (List GPair))→(Option (List GUnit))→(Option (List GPair))→Bool→Int→Bool→Option ((Option (List GPair)) × Int × Bool × Bool)) (v87:Int) (s1000:Int × (Option (List GPair)) × Int × Bool × Bool):Option ((Int × (Option (List GPair)) × Int × Bool × Bool) ⊕ ((Int × (Option (List GPair)) × Bool × Int × Bool))):=
 cond (decide (s1000.1 < ((a1.getD []).length:Int)))
  (obind (cutSO a1 (some 1) (some s1000.1)) fun v134=>
  obind (cutSO a1 (some (wrapF .i64 (s1000.1 + 1))) none) fun v136=>
  obind (f38 (some [v134,v136])) fun v138=>
  cond a2.isNone
   (obind (E37n a2) fun v141=>
   obind (idxO (a1.getD []) s1000.1) fun v143=>
   obind (rec v138.1 (some [⟨v87,v143⟩]) c1000_0 s1000.2.1 s1000.2.2.2.2 s1000.2.2.1 s1000.2.2.2.1) fun v145=>
   some (.inl (wrapF .i64 (s1000.1 + 1),v145.1,v145.2.1,v145.2.2.1,v145.2.2.2)))
   (obind (E37 a2) fun v147=>
   obind (idxO (a1.getD []) s1000.1) fun v149=>
   obind (apO v147 [⟨v87,v149⟩]) fun v151=>
   obind (rec v138.1 v151 c1000_0 s1000.2.1 s1000.2.2.2.2 s1000.2.2.1 s1000.2.2.2.1) fun v153=>
   some (.inl (wrapF .i64 (s1000.1 + 1),v153.1,v153.2.1,v153.2.2.1,v153.2.2.2))))
  (some (.inr (s1000.1,s1000.2.1,s1000.2.2.2.2,s1000.2.2.1,s1000.2.2.2.1)))
def St21_0b (a1:Option (List Int)) (a2:Option (List GPair)) (c1000_0:Option (List GUnit)) (rec:(Option (List Int))→(Option (List GPair))→(Option (List GUnit))→(Option (List GPair))→Bool→Int→Bool→Option ((Option (List GPair)) × Int × Bool × Bool)) (v87:Int) (s1000:Int × (Option (List GPair)) × Int × Bool × Bool):ASt:=⟨[(0,.ptr 0 0,false),(1,sl 1 vint a1,false),(2,sl 2 vpair a2,false),(7,.int .i64 v87,false),(8,.int .i64 s1000.1,false)],[.cells [(sl 2 vunit c1000_0,false),(sl 2 vpair s1000.2.1,s1000.2.2.2.2),(.int .i64 s1000.2.2.1,false),(.bool s1000.2.2.2.1,false)]]⟩
def Ex21_0b (a1:Option (List Int)) (a2:Option (List GPair)) (c1000_0:Option (List GUnit)) (rec:(Option (List Int))→(Option (List GPair))→(Option (List GUnit))→(Option (List GPair))→Bool→Int→Bool→Option ((Option (List GPair)) × Int × Bool × Bool)) (v87:Int) (d:(Int × (Option (List GPair)) × Bool × Int × Bool)):AExit × ASt:=(.exit 0,⟨[(0,.ptr 0 0,false),(1,sl 1 vint a1,false),(2,sl 2 vpair a2,false),(7,.int .i64 v87,false),(8,.int .i64 d.1,false),(49,.bool false,false)],[.cells [(sl 2 vunit c1000_0,false),(sl 2 vpair d.2.1,d.2.2.1),(.int .i64 d.2.2.2.1,false),(.bool d.2.2.2.2,false)]]⟩)
theorem b21_0b (a1:Option (List Int)) (a2:Option (List GPair)) (c1000_0:Option (List GUnit)) (rec:(Option (List Int))→(Option (List GPair))→(Option (List GUnit))→(Option (List GPair))→Bool→Int→Bool→Option ((Option (List GPair)) × Int × Bool × Bool)) (v87:Int) (hrec:∀ {a1:Option (List Int)} {a2:Option (List GPair)} {c1000_0:Option (List GUnit)} {c1000_1:Option (List GPair)} {o0_1:Bool} {c1000_2:Int} {c1000_3:Bool} {r},rec a1 a2 c1000_0 c1000_1 o0_1 c1000_2 c1000_3=some r→callFn pr (X pr) 21 [.ptr 0 0,sl 1 vint a1,sl 2 vpair a2] [.cells [(sl 2 vunit c1000_0,false),(sl 2 vpair c1000_1,o0_1),(.int .i64 c1000_2,false),(.bool c1000_3,false)]]=some (.tup [],false,[.cells [(sl 2 vunit c1000_0,false),(sl 2 vpair r.1,r.2.2.2),(.int .i64 r.2.1,false),(.bool r.2.2.1,false)]])) (s1000:Int × (Option (List GPair)) × Int × Bool × Bool) (r) (h:s21_0b a1 a2 c1000_0 rec v87 s1000=some r):stepO pr c21_0 (St21_0b a1 a2 c1000_0 rec v87) (Ex21_0b a1 a2 c1000_0 rec v87) s1000 r:=by
 unfold s21_0b at h
 rcases cond_split h with ⟨h133,h⟩ | ⟨h133,h⟩
 ·obtain ⟨v134,h135,h⟩:=obind_some h
  obtain ⟨v136,h137,h⟩:=obind_some h
  obtain ⟨v138,h139,h⟩:=obind_some h
  have wh139:callIso pr (X pr) 38 [.list false 1 [sl 1 vint v134,sl 1 vint v136]]=some (sl 1 vint v138.1,v138.2):=W38 h139
  rcases cond_split h with ⟨h140,h⟩ | ⟨h140,h⟩
  ·obtain ⟨v141,h142,h⟩:=obind_some h
   have wh142:callIso pr (X pr) 37 [sl 2 vpair a2]=some (.list true 0 [],false):=WE37n h142
   obtain ⟨v143,h144,h⟩:=obind_some h
   obtain ⟨v145,h146,h⟩:=obind_some h
   have wh146:callFn pr (X pr) 21 [.ptr 0 0,sl 1 vint v138.1,.list false 2 [.agg [.int .i64 v87,.int .i64 v143]]] [.cells [(sl 2 vunit c1000_0,false),(sl 2 vpair s1000.2.1,s1000.2.2.2.2),(.int .i64 s1000.2.2.1,false),(.bool s1000.2.2.2.1,false)]]=some (.tup [],false,[.cells [(sl 2 vunit c1000_0,false),(sl 2 vpair v145.1,v145.2.2.2),(.int .i64 v145.2.1,false),(.bool v145.2.2.1,false)]]):=hrec h146
   cases h
   exact stepO_in (st':=⟨[(0,.ptr 0 0,false),(1,sl 1 vint a1,false),(2,sl 2 vpair a2,false),(7,.int .i64 v87,false),(8,.int .i64 (wrapF .i64 (s1000.1 + 1)),false)],[.cells [(sl 2 vunit c1000_0,false),(sl 2 vpair v145.1,v145.2.2.2),(.int .i64 v145.2.1,false),(.bool v145.2.2.1,false)]]⟩) (by simp only [go_sem,seval,c21_0,St21_0b,h133,slCut_lh h135,slCut_l h137,wh139,h140,wh142,idxR_O h144,wh146] <;> rfl) (gc_same (Nat.le_refl _))
  ·obtain ⟨v147,h148,h⟩:=obind_some h
   have wh148:callIso pr (X pr) 37 [sl 2 vpair a2]=some (sl 2 vpair v147,true):=WE37 h148
   obtain ⟨v149,h150,h⟩:=obind_some h
   obtain ⟨v151,h152,h⟩:=obind_some h
   obtain ⟨v153,h154,h⟩:=obind_some h
   have wh154:callFn pr (X pr) 21 [.ptr 0 0,sl 1 vint v138.1,sl 2 vpair v151] [.cells [(sl 2 vunit c1000_0,false),(sl 2 vpair s1000.2.1,s1000.2.2.2.2),(.int .i64 s1000.2.2.1,false),(.bool s1000.2.2.2.1,false)]]=some (.tup [],false,[.cells [(sl 2 vunit c1000_0,false),(sl 2 vpair v153.1,v153.2.2.2),(.int .i64 v153.2.1,false),(.bool v153.2.2.1,false)]]):=hrec h154
   cases h
   exact stepO_in (st':=⟨[(0,.ptr 0 0,false),(1,sl 1 vint a1,false),(2,sl 2 vpair a2,false),(7,.int .i64 v87,false),(8,.int .i64 (wrapF .i64 (s1000.1 + 1)),false)],[.cells [(sl 2 vunit c1000_0,false),(sl 2 vpair v153.1,v153.2.2.2),(.int .i64 v153.2.1,false),(.bool v153.2.2.1,false)]]⟩) (by simp only [go_sem,seval,c21_0,St21_0b,h133,slCut_lh h135,slCut_l h137,wh139,h140,wh148,idxR_O h150,app_vpair_O h152,wh154] <;> rfl) (gc_same (Nat.le_refl _))
 ·cases h
  exact stepO_out (by simp only [go_sem,seval,c21_0,St21_0b,h133,Ex21_0b] <;> rfl)
theorem l21_0b (a1:Option (List Int)) (a2:Option (List GPair)) (c1000_0:Option (List GUnit)) (rec:(Option (List Int))→(Option (List GPair))→(Option (List GUnit))→(Option (List GPair))→Bool→Int→Bool→Option ((Option (List GPair)) × Int × Bool × Bool)) (v87:Int) (hrec:∀ {a1:Option (List Int)} {a2:Option (List GPair)} {c1000_0:Option (List GUnit)} {c1000_1:Option (List GPair)} {o0_1:Bool} {c1000_2:Int} {c1000_3:Bool} {r},rec a1 a2 c1000_0 c1000_1 o0_1 c1000_2 c1000_3=some r→callFn pr (X pr) 21 [.ptr 0 0,sl 1 vint a1,sl 2 vpair a2] [.cells [(sl 2 vunit c1000_0,false),(sl 2 vpair c1000_1,o0_1),(.int .i64 c1000_2,false),(.bool c1000_3,false)]]=some (.tup [],false,[.cells [(sl 2 vunit c1000_0,false),(sl 2 vpair r.1,r.2.2.2),(.int .i64 r.2.1,false),(.bool r.2.2.1,false)]])) {s1000:Int × (Option (List GPair)) × Int × Bool × Bool} {d} (h:itO (s21_0b a1 a2 c1000_0 rec v87) s1000=some d):X pr (.loop c21_0) (St21_0b a1 a2 c1000_0 rec v87 s1000)=some (Ex21_0b a1 a2 c1000_0 rec v87 d):=X_itO (b21_0b a1 a2 c1000_0 rec v87 hrec) (fun d hh=>by cases hh) h
noncomputable def F21 (rec:(Option (List Int))→(Option (List GPair))→(Option (List GUnit))→(Option (List GPair))→Bool→Int→Bool→Option ((Option (List GPair)) × Int × Bool × Bool)) (a1:Option (List Int)) (a2:Option (List GPair)) (c1000_0:Option (List GUnit)) (c1000_1:Option (List GPair)) (o0_1:Bool) (c1000_2:Int) (c1000_3:Bool):Option ((Option (List GPair)) × Int × Bool × Bool):=
 obind (f23 c1000_0 a2) fun v1=>
 cond c1000_3
  (cond (decide (c1000_2≤v1))
   (some (c1000_1,c1000_2,true,o0_1))
   (cond (decide (((a1.getD []).length:Int)=0))
    (cond a2.isNone
     (obind (E37n a2) fun v7=>
     some (none,v1,true,false))
     (obind (E37 a2) fun v9=>
     some (v9,v1,true,true)))
    (obind (idxO (a1.getD []) 0) fun v11=>
    obind (itO (s21_0 a1 a2 c1000_0 rec v11) (1,c1000_1,c1000_2,true,o0_1)) fun d79=>
    some (d79.2.1,d79.2.2.2.1,d79.2.2.2.2,d79.2.2.1))))
  (cond (decide (((a1.getD []).length:Int)=0))
   (cond a2.isNone
    (obind (E37n a2) fun v83=>
    some (none,v1,true,false))
    (obind (E37 a2) fun v85=>
    some (v85,v1,true,true)))
   (obind (idxO (a1.getD []) 0) fun v87=>
   obind (itO (s21_0b a1 a2 c1000_0 rec v87) (1,c1000_1,c1000_2,false,o0_1)) fun d155=>
   some (d155.2.1,d155.2.2.2.1,d155.2.2.2.2,d155.2.2.1)))
theorem WF111 {rec:(Option (List Int))→(Option (List GPair))→(Option (List GUnit))→(Option (List GPair))→Bool→Int→Bool→Option ((Option (List GPair)) × Int × Bool × Bool)} (hrec:∀ {a1:Option (List Int)} {a2:Option (List GPair)} {c1000_0:Option (List GUnit)} {c1000_1:Option (List GPair)} {o0_1:Bool} {c1000_2:Int} {c1000_3:Bool} {r},rec a1 a2 c1000_0 c1000_1 o0_1 c1000_2 c1000_3=some r→callFn pr (X pr) 21 [.ptr 0 0,sl 1 vint a1,sl 2 vpair a2] [.cells [(sl 2 vunit c1000_0,false),(sl 2 vpair c1000_1,o0_1),(.int .i64 c1000_2,false),(.bool c1000_3,false)]]=some (.tup [],false,[.cells [(sl 2 vunit c1000_0,false),(sl 2 vpair r.1,r.2.2.2),(.int .i64 r.2.1,false),(.bool r.2.2.1,false)]])) {a1:Option (List Int)} {a2:Option (List GPair)} {c1000_0:Option (List GUnit)} {c1000_1:Option (List GPair)} {o0_1:Bool} {c1000_2:Int} {c1000_3:Bool} {r} (h:F21 rec a1 a2 c1000_0 c1000_1 o0_1 c1000_2 c1000_3=some r):callFn pr (X pr) 21 [.ptr 0 0,sl 1 vint a1,sl 2 vpair a2] [.cells [(sl 2 vunit c1000_0,false),(sl 2 vpair c1000_1,o0_1),(.int .i64 c1000_2,false),(.bool c1000_3,false)]]=some (.tup [],false,[.cells [(sl 2 vunit c1000_0,false),(sl 2 vpair r.1,r.2.2.2),(.int .i64 r.2.1,false),(.bool r.2.2.1,false)]]):=by
 unfold F21 at h
 obtain ⟨v1,h2,h⟩:=obind_some h
 have wh2:callIso pr (X pr) 23 [sl 2 vunit c1000_0,sl 2 vpair a2]=some (.int .i64 v1,false):=W23 h2
 rcases cond_split h with ⟨h3,h⟩ | ⟨h3,h⟩
 ·rcases cond_split h with ⟨h4,h⟩ | ⟨h4,h⟩
  ·have hr:(c1000_1,c1000_2,true,o0_1)=r:=Option.some.inj h
   subst hr
   rw [callFn_at (show pr.fns 21=some c21 from rfl) (by simp)]
   simp only [go_sem,seval,c21,wh2,h3,h4] <;> rfl
  ·rcases cond_split h with ⟨h5,h⟩ | ⟨h5,h⟩
   ·rcases cond_split h with ⟨h6,h⟩ | ⟨h6,h⟩
    ·obtain ⟨v7,h8,h⟩:=obind_some h
     have wh8:callIso pr (X pr) 37 [sl 2 vpair a2]=some (.list true 0 [],false):=WE37n h8
     have hr:(none,v1,true,false)=r:=Option.some.inj h
     subst hr
     rw [callFn_at (show pr.fns 21=some c21 from rfl) (by simp)]
     simp only [go_sem,seval,c21,wh2,h3,h4,h5,h6,wh8] <;> rfl
    ·obtain ⟨v9,h10,h⟩:=obind_some h
     have wh10:callIso pr (X pr) 37 [sl 2 vpair a2]=some (sl 2 vpair v9,true):=WE37 h10
     have hr:(v9,v1,true,true)=r:=Option.some.inj h
     subst hr
     rw [callFn_at (show pr.fns 21=some c21 from rfl) (by simp)]
     simp only [go_sem,seval,c21,wh2,h3,h4,h5,h6,wh10] <;> rfl
   ·obtain ⟨v11,h12,h⟩:=obind_some h
    obtain ⟨d79,h80,h⟩:=obind_some h
    have wh80:X pr (.loop c21_0) ⟨[(0,.ptr 0 0,false),(1,sl 1 vint a1,false),(2,sl 2 vpair a2,false),(7,.int .i64 v11,false),(8,.int .i64 1,false)],[.cells [(sl 2 vunit c1000_0,false),(sl 2 vpair c1000_1,o0_1),(.int .i64 c1000_2,false),(.bool true,false)]]⟩=some (.exit 0,⟨[(0,.ptr 0 0,false),(1,sl 1 vint a1,false),(2,sl 2 vpair a2,false),(7,.int .i64 v11,false),(8,.int .i64 d79.1,false),(49,.bool false,false)],[.cells [(sl 2 vunit c1000_0,false),(sl 2 vpair d79.2.1,d79.2.2.1),(.int .i64 d79.2.2.2.1,false),(.bool d79.2.2.2.2,false)]]⟩):=l21_0 a1 a2 c1000_0 rec v11 hrec h80
    have hr:(d79.2.1,d79.2.2.2.1,d79.2.2.2.2,d79.2.2.1)=r:=Option.some.inj h
    subst hr
    rw [callFn_at (show pr.fns 21=some c21 from rfl) (by simp)]
    simp only [go_sem,seval,c21,wh2,h3,h4,h5,idxR_O h12,wh80] <;> rfl
 ·rcases cond_split h with ⟨h81,h⟩ | ⟨h81,h⟩
  ·rcases cond_split h with ⟨h82,h⟩ | ⟨h82,h⟩
   ·obtain ⟨v83,h84,h⟩:=obind_some h
    have wh84:callIso pr (X pr) 37 [sl 2 vpair a2]=some (.list true 0 [],false):=WE37n h84
    have hr:(none,v1,true,false)=r:=Option.some.inj h
    subst hr
    rw [callFn_at (show pr.fns 21=some c21 from rfl) (by simp)]
    simp only [go_sem,seval,c21,wh2,h3,h81,h82,wh84] <;> rfl
   ·obtain ⟨v85,h86,h⟩:=obind_some h
    have wh86:callIso pr (X pr) 37 [sl 2 vpair a2]=some (sl 2 vpair v85,true):=WE37 h86
    have hr:(v85,v1,true,true)=r:=Option.some.inj h
    subst hr
    rw [callFn_at (show pr.fns 21=some c21 from rfl) (by simp)]
    simp only [go_sem,seval,c21,wh2,h3,h81,h82,wh86] <;> rfl
  ·obtain ⟨v87,h88,h⟩:=obind_some h
   obtain ⟨d155,h156,h⟩:=obind_some h
   have wh156:X pr (.loop c21_0) ⟨[(0,.ptr 0 0,false),(1,sl 1 vint a1,false),(2,sl 2 vpair a2,false),(7,.int .i64 v87,false),(8,.int .i64 1,false)],[.cells [(sl 2 vunit c1000_0,false),(sl 2 vpair c1000_1,o0_1),(.int .i64 c1000_2,false),(.bool false,false)]]⟩=some (.exit 0,⟨[(0,.ptr 0 0,false),(1,sl 1 vint a1,false),(2,sl 2 vpair a2,false),(7,.int .i64 v87,false),(8,.int .i64 d155.1,false),(49,.bool false,false)],[.cells [(sl 2 vunit c1000_0,false),(sl 2 vpair d155.2.1,d155.2.2.1),(.int .i64 d155.2.2.2.1,false),(.bool d155.2.2.2.2,false)]]⟩):=l21_0b a1 a2 c1000_0 rec v87 hrec h156
   have hr:(d155.2.1,d155.2.2.2.1,d155.2.2.2.2,d155.2.2.1)=r:=Option.some.inj h
   subst hr
   rw [callFn_at (show pr.fns 21=some c21 from rfl) (by simp)]
   simp only [go_sem,seval,c21,wh2,h3,h81,idxR_O h88,wh156] <;> rfl
noncomputable def f21:Nat→(Option (List Int))→(Option (List GPair))→(Option (List GUnit))→(Option (List GPair))→Bool→Int→Bool→Option ((Option (List GPair)) × Int × Bool × Bool)
 | 0=>fun _ _ _ _ _ _ _=>none
 | n + 1=>F21 (f21 n)
theorem W21:∀ (n:Nat) {a1:Option (List Int)} {a2:Option (List GPair)} {c1000_0:Option (List GUnit)} {c1000_1:Option (List GPair)} {o0_1:Bool} {c1000_2:Int} {c1000_3:Bool} {r} (h:f21 n a1 a2 c1000_0 c1000_1 o0_1 c1000_2 c1000_3=some r),callFn pr (X pr) 21 [.ptr 0 0,sl 1 vint a1,sl 2 vpair a2] [.cells [(sl 2 vunit c1000_0,false),(sl 2 vpair c1000_1,o0_1),(.int .i64 c1000_2,false),(.bool c1000_3,false)]]=some (.tup [],false,[.cells [(sl 2 vunit c1000_0,false),(sl 2 vpair r.1,r.2.2.2),(.int .i64 r.2.1,false),(.bool r.2.2.1,false)]])
 | 0,_,_,_,_,_,_,_,_,h=>by cases h
 | n + 1,_,_,_,_,_,_,_,_,h=>WF111 (W21 n) h
end Go.Z
/-
 Pairs: functions that mirror the runs,and the runs,third part (printed by walk.py).
-/
namespace Go.Z
open Go Go.Abs
noncomputable def f7 (a0:Option (List GUnit)):Option ((Option (List GPair)) × Int × Int):=
 obind (E4 a0) fun v1=>
 obind (remO ((a0.getD []).length:Int) 2) fun v3=>
 obind (E58 (!decide (v3=0)) 35) fun v5=>
 obind (E58 (decide (8 < ((a0.getD []).length:Int))) 23) fun v7=>
 obind (E12 (some [v1,v5,v7])) fun v9=>
 cond (decide (v9=0))
  (obind (f22 a0) fun v12=>
  obind (f21 10 v12.1 none a0 none false 0 false) fun v14=>
  some (v14.1,v14.2.1,0))
  (some (none,0,v9))
theorem W7 {a0:Option (List GUnit)} {r} (h:f7 a0=some r):callIso pr (X pr) 7 [sl 2 vunit a0]=some (.tup [sl 2 vpair r.1,.int .i64 r.2.1,.int .i64 r.2.2],false):=by
 unfold f7 at h
 obtain ⟨v1,h2,h⟩:=obind_some h
 have wh2:callIso pr (X pr) 19 [sl 2 vunit a0]=some (.int .i64 v1,false):=WE19 h2
 obtain ⟨v3,h4,h⟩:=obind_some h
 obtain ⟨v5,h6,h⟩:=obind_some h
 have wh6:callIso pr (X pr) 20 [.bool (!decide (v3=0)),.int .i64 35]=some (.int .i64 v5,false):=WE20 h6
 obtain ⟨v7,h8,h⟩:=obind_some h
 have wh8:callIso pr (X pr) 20 [.bool (decide (8 < ((a0.getD []).length:Int))),.int .i64 23]=some (.int .i64 v7,false):=WE20 h8
 obtain ⟨v9,h10,h⟩:=obind_some h
 have wh10:callIso pr (X pr) 18 [.list false 1 [.int .i64 v1,.int .i64 v5,.int .i64 v7]]=some (.int .i64 v9,false):=WE18 h10
 rcases cond_split h with ⟨h11,h⟩ | ⟨h11,h⟩
 ·obtain ⟨v12,h13,h⟩:=obind_some h
  have wh13:callIso pr (X pr) 22 [sl 2 vunit a0]=some (sl 1 vint v12.1,v12.2):=W22 h13
  obtain ⟨v14,h15,h⟩:=obind_some h
  have wh15:callFn pr (X pr) 21 [.ptr 0 0,sl 1 vint v12.1,.list true 0 []] [.cells [(sl 2 vunit a0,false),(.list true 0 [],false),(.int .i64 0,false),(.bool false,false)]]=some (.tup [],false,[.cells [(sl 2 vunit a0,false),(sl 2 vpair v14.1,v14.2.2.2),(.int .i64 v14.2.1,false),(.bool v14.2.2.1,false)]]):=W21 10 h15
  have hr:(v14.1,v14.2.1,0)=r:=Option.some.inj h
  subst hr
  have this:∃ hh,callFn pr (X pr) 7 [sl 2 vunit a0] []=some (.tup [sl 2 vpair v14.1,.int .i64 v14.2.1,.int .i64 0],false,hh):=by
   rw [callFn_at (show pr.fns 7=some c7 from rfl) (by simp)]
   simp only [go_sem,seval,c7,wh2,b_rem_O h4,wh6,wh8,wh10,h11,wh13,wh15]
   exact ⟨_,rfl⟩
  obtain ⟨hh,this⟩:=this
  exact callIso_of rfl this (by first | rfl | simp only [go_sem,seval]) (by first | rfl | simp only [go_sem,seval])
 ·have hr:(none,0,v9)=r:=Option.some.inj h
  subst hr
  have this:∃ hh,callFn pr (X pr) 7 [sl 2 vunit a0] []=some (.tup [.list true 0 [],.int .i64 0,.int .i64 v9],false,hh):=by
   rw [callFn_at (show pr.fns 7=some c7 from rfl) (by simp)]
   simp only [go_sem,seval,c7,wh2,b_rem_O h4,wh6,wh8,wh10,h11]
   exact ⟨_,rfl⟩
  obtain ⟨hh,this⟩:=this
  exact callIso_of rfl this (by first | rfl | simp only [go_sem,seval]) (by first | rfl | simp only [go_sem,seval])
end Go.Z
