/-
  LineProofs: what the product proves and checks: functions that mirror the runs, and the runs (printed by walk.py).
-/
import Derived.Test.YtbjckbpblomblaaV1
set_option linter.unusedVariables false
set_option linter.unusedSimpArgs false
set_option maxRecDepth 100000
set_option maxHeartbeats 4000000
namespace Go.Z
open Go Go.Abs
theorem tailNil:TailOk []:=fun _ _=>rfl
noncomputable def s26_0 (a0:Option (List GUnit)) (a1:Int) (a2:Option (List Int)) (s1000:Int × (List Int)):Option ((Int × (List Int)) ⊕ ((Int × (List Int)))):=
 cond (decide (s1000.1 < ((a0.getD []).length:Int)))
  (obind (f47 a2 s1000.1) fun v14=>
  cond v14
   (some (.inl (wrapF .i64 (s1000.1 + 1),s1000.2)))
   (obind (addO s1000.2 s1000.1) fun v17=>
   some (.inl (wrapF .i64 (s1000.1 + 1),v17))))
  (some (.inr (s1000.1,s1000.2)))
def St26_0 (a0:Option (List GUnit)) (a1:Int) (a2:Option (List Int)) (s1000:Int × (List Int)):ASt:=⟨[(0,sl 2 vunit a0,false),(1,.int .i64 a1,false),(2,sl 1 vint a2,false),(7,.map 0,false),(13,.int .i64 ((a0.getD []).length:Int),false),(14,.int .i64 s1000.1,false)],[.map (mapI s1000.2)]⟩
def Ex26_0 (a0:Option (List GUnit)) (a1:Int) (a2:Option (List Int)) (d:(Int × (List Int))):AExit × ASt:=(.exit 0,⟨[(0,sl 2 vunit a0,false),(1,.int .i64 a1,false),(2,sl 1 vint a2,false),(7,.map 0,false),(13,.int .i64 ((a0.getD []).length:Int),false),(14,.int .i64 d.1,false),(15,.bool false,false)],[.map (mapI d.2)]⟩)
theorem b26_0 (a0:Option (List GUnit)) (a1:Int) (a2:Option (List Int)) (s1000:Int × (List Int)) (r) (h:s26_0 a0 a1 a2 s1000=some r):stepO pr c26_0 (St26_0 a0 a1 a2) (Ex26_0 a0 a1 a2) s1000 r:=by
 unfold s26_0 at h
 rcases cond_split h with ⟨h13,h⟩ | ⟨h13,h⟩
 ·obtain ⟨v14,h15,h⟩:=obind_some h
  have wh15:callIso pr (X pr) 47 [sl 1 vint a2,.int .i64 s1000.1]=some (.bool v14,false):=W47 h15
  rcases cond_split h with ⟨h16,h⟩ | ⟨h16,h⟩
  ·cases h
   exact stepO_in (st':=⟨[(0,sl 2 vunit a0,false),(1,.int .i64 a1,false),(2,sl 1 vint a2,false),(7,.map 0,false),(13,.int .i64 ((a0.getD []).length:Int),false),(14,.int .i64 (wrapF .i64 (s1000.1 + 1)),false)],[.map (mapI s1000.2)]⟩) (by simp only [go_sem,seval,c26_0,St26_0,h13,wh15,h16] <;> rfl) (gc_same (Nat.le_refl _))
  ·obtain ⟨v17,h18,h⟩:=obind_some h
   cases h
   exact stepO_in (st':=⟨[(0,sl 2 vunit a0,false),(1,.int .i64 a1,false),(2,sl 1 vint a2,false),(7,.map 0,false),(13,.int .i64 ((a0.getD []).length:Int),false),(14,.int .i64 (wrapF .i64 (s1000.1 + 1)),false)],[.map (mapI v17)]⟩) (by simp only [go_sem,seval,c26_0,St26_0,h13,wh15,h16,updI_O h18] <;> rfl) (gc_same (Nat.le_refl _))
 ·cases h
  exact stepO_out (by simp only [go_sem,seval,c26_0,St26_0,h13,Ex26_0] <;> rfl)
theorem l26_0 (a0:Option (List GUnit)) (a1:Int) (a2:Option (List Int)) {s1000:Int × (List Int)} {d} (h:itO (s26_0 a0 a1 a2) s1000=some d):X pr (.loop c26_0) (St26_0 a0 a1 a2 s1000)=some (Ex26_0 a0 a1 a2 d):=X_itO (b26_0 a0 a1 a2) (fun d hh=>by cases hh) h
noncomputable def s26_1 (a0:Option (List GUnit)) (a1:Int) (a2:Option (List Int)) (s1001:Int × Int × (List Int)):Option ((Int × Int × (List Int)) ⊕ ((Int × Int × (List Int)))):=
 cond (decide (s1001.2.1 < ((a0.getD []).length:Int)))
  (cond (memI s1001.2.2 s1001.2.1)
   (obind (f48 70 a0 a1 s1001.2.1 s1001.2.2) fun v37=>
   obind (remO v37.1 2) fun v39=>
   cond (decide (v39=0))
    (some (.inl (s1001.1,wrapF .i64 (s1001.2.1 + 1),v37.2)))
    (some (.inl (wrapF .i64 (s1001.1 + 1),wrapF .i64 (s1001.2.1 + 1),v37.2))))
   (some (.inl (s1001.1,wrapF .i64 (s1001.2.1 + 1),s1001.2.2))))
  (some (.inr (s1001.1,s1001.2.1,s1001.2.2)))
def St26_1 (a0:Option (List GUnit)) (a1:Int) (a2:Option (List Int)) (s1001:Int × Int × (List Int)):ASt:=⟨[(0,sl 2 vunit a0,false),(1,.int .i64 a1,false),(2,sl 1 vint a2,false),(7,.map 0,false),(9,.int .i64 s1001.1,false),(25,.int .i64 ((a0.getD []).length:Int),false),(26,.int .i64 s1001.2.1,false)],[.map (mapI s1001.2.2)]⟩
def Ex26_1 (a0:Option (List GUnit)) (a1:Int) (a2:Option (List Int)) (d:(Int × Int × (List Int))):AExit × ASt:=(.exit 2,⟨[(0,sl 2 vunit a0,false),(1,.int .i64 a1,false),(2,sl 1 vint a2,false),(7,.map 0,false),(9,.int .i64 d.1,false),(25,.int .i64 ((a0.getD []).length:Int),false),(26,.int .i64 d.2.1,false),(27,.bool false,false)],[.map (mapI d.2.2)]⟩)
theorem b26_1 (a0:Option (List GUnit)) (a1:Int) (a2:Option (List Int)) (s1001:Int × Int × (List Int)) (r) (h:s26_1 a0 a1 a2 s1001=some r):stepO pr c26_1 (St26_1 a0 a1 a2) (Ex26_1 a0 a1 a2) s1001 r:=by
 unfold s26_1 at h
 rcases cond_split h with ⟨h35,h⟩ | ⟨h35,h⟩
 ·rcases cond_split h with ⟨h36,h⟩ | ⟨h36,h⟩
  ·obtain ⟨v37,h38,h⟩:=obind_some h
   have wh38:callFn pr (X pr) 48 [sl 2 vunit a0,.int .i64 a1,.int .i64 s1001.2.1,.map 0] [.map (mapI s1001.2.2)]=some (.int .i64 v37.1,false,[.map (mapI v37.2)]):=W48 70 tailNil h38
   obtain ⟨v39,h40,h⟩:=obind_some h
   rcases cond_split h with ⟨h41,h⟩ | ⟨h41,h⟩
   ·cases h
    exact stepO_in (st':=⟨[(0,sl 2 vunit a0,false),(1,.int .i64 a1,false),(2,sl 1 vint a2,false),(7,.map 0,false),(9,.int .i64 s1001.1,false),(25,.int .i64 ((a0.getD []).length:Int),false),(26,.int .i64 (wrapF .i64 (s1001.2.1 + 1)),false)],[.map (mapI v37.2)]⟩) (by simp only [go_sem,seval,c26_1,St26_1,h35,lookI,h36,wh38,b_rem_O h40,h41] <;> rfl) (gc_same (Nat.le_refl _))
   ·cases h
    exact stepO_in (st':=⟨[(0,sl 2 vunit a0,false),(1,.int .i64 a1,false),(2,sl 1 vint a2,false),(7,.map 0,false),(9,.int .i64 (wrapF .i64 (s1001.1 + 1)),false),(25,.int .i64 ((a0.getD []).length:Int),false),(26,.int .i64 (wrapF .i64 (s1001.2.1 + 1)),false)],[.map (mapI v37.2)]⟩) (by simp only [go_sem,seval,c26_1,St26_1,h35,lookI,h36,wh38,b_rem_O h40,h41] <;> rfl) (gc_same (Nat.le_refl _))
  ·cases h
   exact stepO_in (st':=⟨[(0,sl 2 vunit a0,false),(1,.int .i64 a1,false),(2,sl 1 vint a2,false),(7,.map 0,false),(9,.int .i64 s1001.1,false),(25,.int .i64 ((a0.getD []).length:Int),false),(26,.int .i64 (wrapF .i64 (s1001.2.1 + 1)),false)],[.map (mapI s1001.2.2)]⟩) (by simp only [go_sem,seval,c26_1,St26_1,h35,lookI,h36] <;> rfl) (gc_same (Nat.le_refl _))
 ·cases h
  exact stepO_out (by simp only [go_sem,seval,c26_1,St26_1,h35,Ex26_1] <;> rfl)
theorem l26_1 (a0:Option (List GUnit)) (a1:Int) (a2:Option (List Int)) {s1001:Int × Int × (List Int)} {d} (h:itO (s26_1 a0 a1 a2) s1001=some d):X pr (.loop c26_1) (St26_1 a0 a1 a2 s1001)=some (Ex26_1 a0 a1 a2 d):=X_itO (b26_1 a0 a1 a2) (fun d hh=>by cases hh) h
noncomputable def f26 (a0:Option (List GUnit)) (a1:Int) (a2:Option (List Int)):Option Bool:=
 obind (itO (s26_0 a0 a1 a2) (0,[])) fun d19=>
 obind (itO (s26_1 a0 a1 a2) (0,0,d19.2)) fun d42=>
 some (decide (((a2.getD []).length:Int) < d42.1))
theorem W26 {a0:Option (List GUnit)} {a1:Int} {a2:Option (List Int)} {r} (h:f26 a0 a1 a2=some r):callIso pr (X pr) 26 [sl 2 vunit a0,.int .i64 a1,sl 1 vint a2]=some (.bool r,false):=by
 unfold f26 at h
 obtain ⟨d19,h20,h⟩:=obind_some h
 have wh20:X pr (.loop c26_0) ⟨[(0,sl 2 vunit a0,false),(1,.int .i64 a1,false),(2,sl 1 vint a2,false),(7,.map 0,false),(13,.int .i64 ((a0.getD []).length:Int),false),(14,.int .i64 0,false)],[.map (mapI [])]⟩=some (.exit 0,⟨[(0,sl 2 vunit a0,false),(1,.int .i64 a1,false),(2,sl 1 vint a2,false),(7,.map 0,false),(13,.int .i64 ((a0.getD []).length:Int),false),(14,.int .i64 d19.1,false),(15,.bool false,false)],[.map (mapI d19.2)]⟩):=l26_0 a0 a1 a2 h20
 obtain ⟨d42,h43,h⟩:=obind_some h
 have wh43:X pr (.loop c26_1) ⟨[(0,sl 2 vunit a0,false),(1,.int .i64 a1,false),(2,sl 1 vint a2,false),(7,.map 0,false),(9,.int .i64 0,false),(25,.int .i64 ((a0.getD []).length:Int),false),(26,.int .i64 0,false)],[.map (mapI d19.2)]⟩=some (.exit 2,⟨[(0,sl 2 vunit a0,false),(1,.int .i64 a1,false),(2,sl 1 vint a2,false),(7,.map 0,false),(9,.int .i64 d42.1,false),(25,.int .i64 ((a0.getD []).length:Int),false),(26,.int .i64 d42.2.1,false),(27,.bool false,false)],[.map (mapI d42.2.2)]⟩):=l26_1 a0 a1 a2 h43
 have hr:decide (((a2.getD []).length:Int) < d42.1)=r:=Option.some.inj h
 subst hr
 have this:∃ hh,callFn pr (X pr) 26 [sl 2 vunit a0,.int .i64 a1,sl 1 vint a2] []=some (.bool (decide (((a2.getD []).length:Int) < d42.1)),false,hh):=by
  rw [callFn_at (show pr.fns 26=some c26 from rfl) (by simp)]
  simp only [go_sem,seval,c26,mkmapI,wh20,wh43]
  exact ⟨_,rfl⟩
 obtain ⟨hh,this⟩:=this
 exact callIso_of rfl this (by first | rfl | simp only [go_sem,seval]) (by first | rfl | simp only [go_sem,seval])
noncomputable def s11_0 (a0:Option (List GUnit)) (a1:Int) (a2:Option (List Int)) (s1000:Int):Option (Int ⊕ (Int ⊕ Int)):=
 cond (decide (s1000 < ((a2.getD []).length:Int)))
  (obind (idxO (a2.getD []) s1000) fun v61=>
  cond (decide (v61 < 0))
   (obind (E58 true 10) fun v64=>
   cond (decide (0 < s1000))
    (obind (idxO (a2.getD []) (max 0 (wrapF .i64 (s1000 - 1)))) fun v67=>
    obind (E58 (decide (v61≤v67)) 11) fun v69=>
    obind (E12 (some [v64,v69])) fun v71=>
    cond (decide (v71=0))
     (some (.inl (wrapF .i64 (s1000 + 1))))
     (some (.inr (.inl v71))))
    (obind (E58 false 11) fun v74=>
    obind (E12 (some [v64,v74])) fun v76=>
    cond (decide (v76=0))
     (some (.inl (wrapF .i64 (s1000 + 1))))
     (some (.inr (.inl v76)))))
   (obind (E58 (decide (((a0.getD []).length:Int)≤v61)) 10) fun v79=>
   cond (decide (0 < s1000))
    (obind (idxO (a2.getD []) (max 0 (wrapF .i64 (s1000 - 1)))) fun v82=>
    obind (E58 (decide (v61≤v82)) 11) fun v84=>
    obind (E12 (some [v79,v84])) fun v86=>
    cond (decide (v86=0))
     (some (.inl (wrapF .i64 (s1000 + 1))))
     (some (.inr (.inl v86))))
    (obind (E58 false 11) fun v89=>
    obind (E12 (some [v79,v89])) fun v91=>
    cond (decide (v91=0))
     (some (.inl (wrapF .i64 (s1000 + 1))))
     (some (.inr (.inl v91))))))
  (some (.inr (.inr s1000)))
def St11_0 (a0:Option (List GUnit)) (a1:Int) (a2:Option (List Int)) (s1000:Int):ASt:=⟨[(0,sl 2 vunit a0,false),(1,.int .i64 a1,false),(2,sl 1 vint a2,false),(20,sl 1 vint a2,false),(21,.int .i64 ((a2.getD []).length:Int),false),(22,.int .i64 s1000,false)],[]⟩
def Ex11_0 (a0:Option (List GUnit)) (a1:Int) (a2:Option (List Int)):Int ⊕ Int→AExit × ASt
 | .inl d=>(.ret,⟨[(6,.int .i64 d,false)],[]⟩)
 | .inr d=>(.exit 0,⟨[(0,sl 2 vunit a0,false),(1,.int .i64 a1,false),(2,sl 1 vint a2,false),(20,sl 1 vint a2,false),(21,.int .i64 ((a2.getD []).length:Int),false),(22,.int .i64 d,false),(23,.bool false,false)],[]⟩)
theorem b11_0 (a0:Option (List GUnit)) (a1:Int) (a2:Option (List Int)) (s1000:Int) (r) (h:s11_0 a0 a1 a2 s1000=some r):stepO pr c11_0 (St11_0 a0 a1 a2) (Ex11_0 a0 a1 a2) s1000 r:=by
 unfold s11_0 at h
 rcases cond_split h with ⟨h60,h⟩ | ⟨h60,h⟩
 ·obtain ⟨v61,h62,h⟩:=obind_some h
  rcases cond_split h with ⟨h63,h⟩ | ⟨h63,h⟩
  ·obtain ⟨v64,h65,h⟩:=obind_some h
   have wh65:callIso pr (X pr) 20 [.bool true,.int .i64 10]=some (.int .i64 v64,false):=WE20 h65
   rcases cond_split h with ⟨h66,h⟩ | ⟨h66,h⟩
   ·obtain ⟨v67,h68,h⟩:=obind_some h
    obtain ⟨v69,h70,h⟩:=obind_some h
    have wh70:callIso pr (X pr) 20 [.bool (decide (v61≤v67)),.int .i64 11]=some (.int .i64 v69,false):=WE20 h70
    obtain ⟨v71,h72,h⟩:=obind_some h
    have wh72:callIso pr (X pr) 18 [.list false 1 [.int .i64 v64,.int .i64 v69]]=some (.int .i64 v71,false):=WE18 h72
    rcases cond_split h with ⟨h73,h⟩ | ⟨h73,h⟩
    ·cases h
     exact stepO_in (st':=⟨[(0,sl 2 vunit a0,false),(1,.int .i64 a1,false),(2,sl 1 vint a2,false),(20,sl 1 vint a2,false),(21,.int .i64 ((a2.getD []).length:Int),false),(22,.int .i64 (wrapF .i64 (s1000 + 1)),false)],[]⟩) (by simp only [go_sem,seval,c11_0,St11_0,h60,idxR_O h62,h63,wh65,h66,idxR_O h68,wh70,wh72,h73] <;> rfl) (gc_same (Nat.le_refl _))
    ·cases h
     exact stepO_out (by simp only [go_sem,seval,c11_0,St11_0,h60,idxR_O h62,h63,wh65,h66,idxR_O h68,wh70,wh72,h73,Ex11_0] <;> rfl)
   ·obtain ⟨v74,h75,h⟩:=obind_some h
    have wh75:callIso pr (X pr) 20 [.bool false,.int .i64 11]=some (.int .i64 v74,false):=WE20 h75
    obtain ⟨v76,h77,h⟩:=obind_some h
    have wh77:callIso pr (X pr) 18 [.list false 1 [.int .i64 v64,.int .i64 v74]]=some (.int .i64 v76,false):=WE18 h77
    rcases cond_split h with ⟨h78,h⟩ | ⟨h78,h⟩
    ·cases h
     exact stepO_in (st':=⟨[(0,sl 2 vunit a0,false),(1,.int .i64 a1,false),(2,sl 1 vint a2,false),(20,sl 1 vint a2,false),(21,.int .i64 ((a2.getD []).length:Int),false),(22,.int .i64 (wrapF .i64 (s1000 + 1)),false)],[]⟩) (by simp only [go_sem,seval,c11_0,St11_0,h60,idxR_O h62,h63,wh65,h66,wh75,wh77,h78] <;> rfl) (gc_same (Nat.le_refl _))
    ·cases h
     exact stepO_out (by simp only [go_sem,seval,c11_0,St11_0,h60,idxR_O h62,h63,wh65,h66,wh75,wh77,h78,Ex11_0] <;> rfl)
  ·obtain ⟨v79,h80,h⟩:=obind_some h
   have wh80:callIso pr (X pr) 20 [.bool (decide (((a0.getD []).length:Int)≤v61)),.int .i64 10]=some (.int .i64 v79,false):=WE20 h80
   rcases cond_split h with ⟨h81,h⟩ | ⟨h81,h⟩
   ·obtain ⟨v82,h83,h⟩:=obind_some h
    obtain ⟨v84,h85,h⟩:=obind_some h
    have wh85:callIso pr (X pr) 20 [.bool (decide (v61≤v82)),.int .i64 11]=some (.int .i64 v84,false):=WE20 h85
    obtain ⟨v86,h87,h⟩:=obind_some h
    have wh87:callIso pr (X pr) 18 [.list false 1 [.int .i64 v79,.int .i64 v84]]=some (.int .i64 v86,false):=WE18 h87
    rcases cond_split h with ⟨h88,h⟩ | ⟨h88,h⟩
    ·cases h
     exact stepO_in (st':=⟨[(0,sl 2 vunit a0,false),(1,.int .i64 a1,false),(2,sl 1 vint a2,false),(20,sl 1 vint a2,false),(21,.int .i64 ((a2.getD []).length:Int),false),(22,.int .i64 (wrapF .i64 (s1000 + 1)),false)],[]⟩) (by simp only [go_sem,seval,c11_0,St11_0,h60,idxR_O h62,h63,wh80,h81,idxR_O h83,wh85,wh87,h88] <;> rfl) (gc_same (Nat.le_refl _))
    ·cases h
     exact stepO_out (by simp only [go_sem,seval,c11_0,St11_0,h60,idxR_O h62,h63,wh80,h81,idxR_O h83,wh85,wh87,h88,Ex11_0] <;> rfl)
   ·obtain ⟨v89,h90,h⟩:=obind_some h
    have wh90:callIso pr (X pr) 20 [.bool false,.int .i64 11]=some (.int .i64 v89,false):=WE20 h90
    obtain ⟨v91,h92,h⟩:=obind_some h
    have wh92:callIso pr (X pr) 18 [.list false 1 [.int .i64 v79,.int .i64 v89]]=some (.int .i64 v91,false):=WE18 h92
    rcases cond_split h with ⟨h93,h⟩ | ⟨h93,h⟩
    ·cases h
     exact stepO_in (st':=⟨[(0,sl 2 vunit a0,false),(1,.int .i64 a1,false),(2,sl 1 vint a2,false),(20,sl 1 vint a2,false),(21,.int .i64 ((a2.getD []).length:Int),false),(22,.int .i64 (wrapF .i64 (s1000 + 1)),false)],[]⟩) (by simp only [go_sem,seval,c11_0,St11_0,h60,idxR_O h62,h63,wh80,h81,wh90,wh92,h93] <;> rfl) (gc_same (Nat.le_refl _))
    ·cases h
     exact stepO_out (by simp only [go_sem,seval,c11_0,St11_0,h60,idxR_O h62,h63,wh80,h81,wh90,wh92,h93,Ex11_0] <;> rfl)
 ·cases h
  exact stepO_out (by simp only [go_sem,seval,c11_0,St11_0,h60,Ex11_0] <;> rfl)
theorem l11_0 (a0:Option (List GUnit)) (a1:Int) (a2:Option (List Int)) {s1000:Int} {d} (h:itO (s11_0 a0 a1 a2) s1000=some d):X pr (.loop c11_0) (St11_0 a0 a1 a2 s1000)=some (Ex11_0 a0 a1 a2 d):=X_itO (b11_0 a0 a1 a2) (fun d=>by rcases d with d|d <;> (intro hh; cases hh)) h
noncomputable def f11 (a0:Option (List GUnit)) (a1:Int) (a2:Option (List Int)):Option Int:=
 obind (E4 a0) fun v1=>
 obind (f24 a1) fun v3=>
 obind (E12 (some [v1,v3])) fun v5=>
 cond (decide (v5=0))
  (obind (itO (s11_0 a0 a1 a2) 0) fun d94=>match d94 with
   | .inl d96=>
    some d96
   | .inr d97=>
    obind (f26 a0 a1 a2) fun v98=>
    obind (E58 (!v98) 22) fun v100=>
    some v100)
  (some v5)
theorem W11 {a0:Option (List GUnit)} {a1:Int} {a2:Option (List Int)} {r} (h:f11 a0 a1 a2=some r):callIso pr (X pr) 11 [sl 2 vunit a0,.int .i64 a1,sl 1 vint a2]=some (.int .i64 r,false):=by
 unfold f11 at h
 obtain ⟨v1,h2,h⟩:=obind_some h
 have wh2:callIso pr (X pr) 19 [sl 2 vunit a0]=some (.int .i64 v1,false):=WE19 h2
 obtain ⟨v3,h4,h⟩:=obind_some h
 have wh4:callIso pr (X pr) 24 [.int .i64 a1]=some (.int .i64 v3,false):=W24 h4
 obtain ⟨v5,h6,h⟩:=obind_some h
 have wh6:callIso pr (X pr) 18 [.list false 1 [.int .i64 v1,.int .i64 v3]]=some (.int .i64 v5,false):=WE18 h6
 rcases cond_split h with ⟨h7,h⟩ | ⟨h7,h⟩
 ·obtain ⟨d94,h95,h⟩:=obind_some h
  rcases d94 with d96 | d97
  ·have wh95:X pr (.loop c11_0) ⟨[(0,sl 2 vunit a0,false),(1,.int .i64 a1,false),(2,sl 1 vint a2,false),(20,sl 1 vint a2,false),(21,.int .i64 ((a2.getD []).length:Int),false),(22,.int .i64 0,false)],[]⟩=some (.ret,⟨[(6,.int .i64 d96,false)],[]⟩):=l11_0 a0 a1 a2 h95
   have hr:d96=r:=Option.some.inj h
   subst hr
   have this:∃ hh,callFn pr (X pr) 11 [sl 2 vunit a0,.int .i64 a1,sl 1 vint a2] []=some (.int .i64 d96,false,hh):=by
    rw [callFn_at (show pr.fns 11=some c11 from rfl) (by simp)]
    simp only [go_sem,seval,c11,wh2,wh4,wh6,h7,wh95]
    exact ⟨_,rfl⟩
   obtain ⟨hh,this⟩:=this
   exact callIso_of rfl this (by first | rfl | simp only [go_sem,seval]) (by first | rfl | simp only [go_sem,seval])
  ·have wh95:X pr (.loop c11_0) ⟨[(0,sl 2 vunit a0,false),(1,.int .i64 a1,false),(2,sl 1 vint a2,false),(20,sl 1 vint a2,false),(21,.int .i64 ((a2.getD []).length:Int),false),(22,.int .i64 0,false)],[]⟩=some (.exit 0,⟨[(0,sl 2 vunit a0,false),(1,.int .i64 a1,false),(2,sl 1 vint a2,false),(20,sl 1 vint a2,false),(21,.int .i64 ((a2.getD []).length:Int),false),(22,.int .i64 d97,false),(23,.bool false,false)],[]⟩):=l11_0 a0 a1 a2 h95
   obtain ⟨v98,h99,h⟩:=obind_some h
   have wh99:callIso pr (X pr) 26 [sl 2 vunit a0,.int .i64 a1,sl 1 vint a2]=some (.bool v98,false):=W26 h99
   obtain ⟨v100,h101,h⟩:=obind_some h
   have wh101:callIso pr (X pr) 20 [.bool (!v98),.int .i64 22]=some (.int .i64 v100,false):=WE20 h101
   have hr:v100=r:=Option.some.inj h
   subst hr
   have this:∃ hh,callFn pr (X pr) 11 [sl 2 vunit a0,.int .i64 a1,sl 1 vint a2] []=some (.int .i64 v100,false,hh):=by
    rw [callFn_at (show pr.fns 11=some c11 from rfl) (by simp)]
    simp only [go_sem,seval,c11,wh2,wh4,wh6,h7,wh95,wh99,wh101]
    exact ⟨_,rfl⟩
   obtain ⟨hh,this⟩:=this
   exact callIso_of rfl this (by first | rfl | simp only [go_sem,seval]) (by first | rfl | simp only [go_sem,seval])
 ·have hr:v5=r:=Option.some.inj h
  subst hr
  have this:∃ hh,callFn pr (X pr) 11 [sl 2 vunit a0,.int .i64 a1,sl 1 vint a2] []=some (.int .i64 v5,false,hh):=by
   rw [callFn_at (show pr.fns 11=some c11 from rfl) (by simp)]
   simp only [go_sem,seval,c11,wh2,wh4,wh6,h7]
   exact ⟨_,rfl⟩
  obtain ⟨hh,this⟩:=this
  exact callIso_of rfl this (by first | rfl | simp only [go_sem,seval]) (by first | rfl | simp only [go_sem,seval])
end Go.Z
/-
 LineProofs: the product's search for a set: the sets one after another (a range over a function),and Prove.
-/
namespace Go.Z
open Go Go.Abs
def rfA:ACode→ACode
 | .rangeFunc _ _ a _=>a
 | x=>x
def rfB:ACode→ACode
 | .rangeFunc _ _ _ b=>b
 | x=>x
def rf60:ACode:=pcB (pcR (pcR (pcB (pcL (pcR (pcR c10_0))))))
def as60:ACode:=rfA rf60
def bd60:ACode:=rfB rf60
theorem rf60_eq:rf60=.rangeFunc (.tmp 31) [32] as60 bd60:=rfl
def E10 (n1 i:Int):Env:=[(2,.ptr 0 0,false),(3,.ptr 1 0,false),(4,.ptr 2 0,false),(5,.ptr 3 0,false),(24,.int .i64 n1,false),(25,.int .i64 i,false),(31,.fn (.func 44) [] [.ptr 5 0,.ptr 4 0],false)]
def HP (o:Option (List GUnit)) (below:Int) (R:AVal) (E n size n1 i:Int) (pd:Option AExit):Heap:=
 [.cells [(sl 2 vunit o,false)],.cells [(.int .i64 below,false)],.cells [(R,false)],.cells [(.int .i64 E,false)],.cells [(.int .i64 n,false)],.cells [(.int .i64 size,false)],.loop ⟨E10 n1 i,[32],as60,bd60,pd⟩,
  .cells [(.fn (.yield 6) [] [],false)],.cells [(.fn (.func 45) [] [.ptr 5 0,.ptr 7 0,.ptr 4 0,.ptr 8 0],false)]]
section
variable {o:Option (List GUnit)} {below:Int} {R:AVal} {E n size n1 i:Int}
theorem as60_run {set:Option (List Int)} {H:Heap}:X pr as60 ⟨(32,sl 1 vint set,false)::E10 n1 i,H⟩=some (.normal,⟨[(2,.ptr 0 0,false),(3,.ptr 1 0,false),(4,.ptr 2 0,false),(5,.ptr 3 0,false),(8,sl 1 vint set,false),(24,.int .i64 n1,false),(25,.int .i64 i,false),(32,sl 1 vint set,false)],H⟩):=by
 simp only [go_sem,seval,as60,rfA,rf60,pcB,pcL,pcR,c10_0,E10] <;> rfl
theorem bd60_f {set:Option (List Int)} (h:f26 o below set=some false):∃ e,X pr bd60 ⟨[(2,.ptr 0 0,false),(3,.ptr 1 0,false),(4,.ptr 2 0,false),(5,.ptr 3 0,false),(8,sl 1 vint set,false),(24,.int .i64 n1,false),(25,.int .i64 i,false),(32,sl 1 vint set,false)],HP o below R E n size n1 i (some .normal)⟩=some (.normal,⟨e,HP o below R E n size n1 i (some .normal)⟩):=by
 have h119:=W26 h
 simp only [go_sem,seval,bd60,rfB,rf60,pcB,pcL,pcR,c10_0,HP,h119]
 exact ⟨_,rfl⟩
theorem bd60_t {set:Option (List Int)} (h:f26 o below set=some true):∃ e,X pr bd60 ⟨[(2,.ptr 0 0,false),(3,.ptr 1 0,false),(4,.ptr 2 0,false),(5,.ptr 3 0,false),(8,sl 1 vint set,false),(24,.int .i64 n1,false),(25,.int .i64 i,false),(32,sl 1 vint set,false)],HP o below R E n size n1 i (some .normal)⟩=some (.ret,⟨e,HP o below (sl 1 vint set) 0 n size n1 i (some .normal)⟩):=by
 have h119:=W26 h
 simp only [go_sem,seval,bd60,rfB,rf60,pcB,pcL,pcR,c10_0,HP,h119]
 exact ⟨_,rfl⟩
theorem yield60 {set:Option (List Int)} {b:Bool} (h:f26 o below set=some b):yieldOp (X pr) 6 [sl 1 vint set] (HP o below R E n size n1 i none) =
  some (.bool (!b),HP o below (bif b then sl 1 vint set else R) (bif b then 0 else E) n size n1 i (bif b then some .ret else none)):=by
 have g:∀ pd R E,getBox (HP o below R E n size n1 i pd) 6=some (.loop ⟨E10 n1 i,[32],as60,bd60,pd⟩):=fun _ _ _=>rfl
 have se:setEnvs (noOwn (E10 n1 i)) [32] [sl 1 vint set]=some ((32,sl 1 vint set,false)::E10 n1 i):=rfl
 have st:∀ pd pd' R E,(HP o below R E n size n1 i pd).set 6 (.loop ⟨E10 n1 i,[32],as60,bd60,pd'⟩)=HP o below R E n size n1 i pd':=fun _ _ _ _=>rfl
 have hl:∀ pd R E,(HP o below R E n size n1 i pd).length=9:=fun _ _ _=>rfl
 have ha:∀ pd R E v,afterShared 9 v (HP o below R E n size n1 i pd)=HP o below R E n size n1 i pd:=fun _ _ _ _=>after_same rfl
 unfold yieldOp
 cases b with
 | false=>
  obtain ⟨e,hb⟩:=bd60_f (R:=R) (E:=E) (n:=n) (size:=size) (n1:=n1) (i:=i) h
  simp only [g,se,as60_run,Option.isNone_none,cond_true,st,hb,hl,ha]
  rfl
 | true=>
  obtain ⟨e,hb⟩:=bd60_t (R:=R) (E:=E) (n:=n) (size:=size) (n1:=n1) (i:=i) h
  simp only [g,se,as60_run,Option.isNone_none,cond_true,st,hb,hl,ha]
  rfl
end
noncomputable def clO (o:Option (List Int)):Option (Option (List Int)):=exO ((o.getD []).length≤1073741824) o
theorem clO_run {o r:Option (List Int)} (h:clO o=some r):∃ b,callIso pr (X pr) 46 [sl 1 vint o]=some (sl 1 vint r,b)∧(b=true∨r=none):=by
 obtain ⟨h1,rfl⟩:=exO_some h
 cases o with
 | none=>exact ⟨false,WE46n (o:=none) (r:=()) rfl,.inr rfl⟩
 | some l=>exact ⟨true,WE46 (exO_of ⟨h1,by simp⟩),.inl rfl⟩
abbrev Found:=Option (Option (List Int))
abbrev RecS:=Option (List Int)→Int→Option Found
noncomputable def s45 (rec:RecS) (n:Int) (set:Option (List Int)) (i:Int):Option (Int ⊕ Found):=
 cond (decide (i < n))
  (obind (clO set) fun c=>
   obind (apO c [i]) fun s'=>
   obind (rec s' (wrapF .i64 (i + 1))) fun r=>
   match r with
   | none=>some (.inl (wrapF .i64 (i + 1)))
   | some x=>some (.inr (some x)))
  (some (.inr none))
noncomputable def F45 (o:Option (List GUnit)) (below n size:Int) (rec:RecS):RecS:=fun set frm=>
 cond (decide (((set.getD []).length:Int)=size))
  (obind (clO set) fun c=>obind (f26 o below c) fun b=>some (bif b then some c else none))
  (itO (s45 rec n set) frm)
noncomputable def f45 (o:Option (List GUnit)) (below n size:Int):Nat→RecS
 | 0=>fun _ _=>none
 | k + 1=>F45 o below n size (f45 o below n size k)
def outB (r:Found):AVal:=.bool r.isNone
def outR (R:AVal) (r:Found):AVal:=match r with
 | none=>R
 | some x=>sl 1 vint x
def outE (E:Int) (r:Found):Int:=match r with
 | none=>E
 | some _=>0
def outP (r:Found):Option AExit:=match r with
 | none=>none
 | some _=>some .ret
section
variable {o:Option (List GUnit)} {below:Int} {R:AVal} {E n size n1 i:Int}
def St45 (set:Option (List Int)) (o:Option (List GUnit)) (below:Int) (R:AVal) (E n size n1 i:Int) (j:Int):ASt:=⟨[(0,sl 1 vint set,false),(4,.ptr 4 0,false),(5,.ptr 8 0,false),(9,.int .i64 j,false)],HP o below R E n size n1 i none⟩
def Ex45 (set:Option (List Int)) (o:Option (List GUnit)) (below:Int) (R:AVal) (E n size n1 i:Int):Int ⊕ Found→AExit × ASt
 | .inl j=>(.exit 0,⟨[(0,sl 1 vint set,false),(4,.ptr 4 0,false),(5,.ptr 8 0,false),(9,.int .i64 j,false),(21,.bool false,false)],HP o below R E n size n1 i none⟩)
 | .inr r=>(.ret,⟨[(8,.bool false,false)],HP o below (outR R r) (outE E r) n size n1 i (outP r)⟩)
noncomputable def s45' (rec:RecS) (n:Int) (set:Option (List Int)) (i:Int):Option (Int ⊕ (Int ⊕ Found)):=
 cond (decide (i < n))
  (obind (clO set) fun c=>
   obind (apO c [i]) fun s'=>
   obind (rec s' (wrapF .i64 (i + 1))) fun r=>
   match r with
   | none=>some (.inl (wrapF .i64 (i + 1)))
   | some x=>some (.inr (.inr (some x))))
  (some (.inr (.inl i)))
theorem s45_it {rec:RecS} {n:Int} {set:Option (List Int)}:∀ {k:Nat} {i:Int} {d:Found},itF (s45 rec n set) k i=some d→∃ d',itF (s45' rec n set) k i=some d'∧(match d' with
   | .inl _=>d=none
   | .inr r=>r=d∧d ≠ none)
 | 0,i,d,h=>by cases h
 | k + 1,i,d,h=>by
  rw [itF] at h
  have key:∀ r,s45 rec n set i=some r→(∃ i',r=.inl i'∧s45' rec n set i=some (.inl i'))∨(r=.inr none∧s45' rec n set i=some (.inr (.inl i)))∨(∃ x,r=.inr (some x)∧s45' rec n set i=some (.inr (.inr (some x)))):=by
   intro r hr
   unfold s45 at hr
   unfold s45'
   rcases cond_split hr with ⟨h1,hr⟩ | ⟨h1,hr⟩
   ·obtain ⟨c,h2,hr⟩:=obind_some hr
    obtain ⟨s',h3,hr⟩:=obind_some hr
    obtain ⟨x,h4,hr⟩:=obind_some hr
    simp only [h1,cond_true,h2,h3,h4,obind_at]
    cases x with
    | none=>cases hr; exact .inl ⟨_,rfl,rfl⟩
    | some x=>cases hr; exact .inr (.inr ⟨x,rfl,rfl⟩)
   ·cases hr
    simp [h1]
  cases hs:s45 rec n set i with
  | none=>rw [hs] at h; cases h
  | some r=>
   rw [hs] at h
   rw [itF]
   rcases key r hs with ⟨i',rfl,h2⟩ | ⟨rfl,h2⟩ | ⟨x,rfl,h2⟩
   ·rw [h2]; exact s45_it h
   ·cases h; rw [h2]; exact ⟨_,rfl,by trivial⟩
   ·cases h; rw [h2]; exact ⟨_,rfl,by simp⟩
theorem s45_run {rec:RecS} {n:Int} {set:Option (List Int)} {i:Int} {d:Found} (h:itO (s45 rec n set) i=some d):∃ d',itO (s45' rec n set) i=some d'∧(match d' with
   | .inl _=>d=none
   | .inr r=>r=d∧d ≠ none):=by
 obtain ⟨k,hk⟩:=itO_iff.1 h
 obtain ⟨d',h1,h2⟩:=s45_it hk
 exact ⟨d',itO_iff.2 ⟨k,h1⟩,h2⟩
def call141 (set:Option (List Int)) (frm:Int):List AVal:=[sl 1 vint set,.int .i64 frm,.ptr 5 0,.ptr 7 0,.ptr 4 0,.ptr 8 0]
theorem b45 {rec:RecS} (hrec:∀ {set frm r},rec set frm=some r→callFn pr (X pr) 45 (call141 set frm) (HP o below R E n size n1 i none)=some (outB r,false,HP o below (outR R r) (outE E r) n size n1 i (outP r)))
  (set:Option (List Int)) (j:Int) (r) (h:s45' rec n set j=some r):stepO pr c45_0 (St45 set o below R E n size n1 i) (Ex45 set o below R E n size n1 i) j r:=by
 unfold s45' at h
 rcases cond_split h with ⟨h1,h⟩ | ⟨h1,h⟩
 ·obtain ⟨c,h2,h⟩:=obind_some h
  obtain ⟨s',h3,h⟩:=obind_some h
  obtain ⟨x,h4,h⟩:=obind_some h
  obtain ⟨b,h5,h6⟩:=clO_run h2
  have h7:=hrec h4
  unfold call141 at h7
  have ha:∀ v R E pd,afterShared 9 v (HP o below R E n size n1 i pd)=HP o below R E n size n1 i pd:=fun _ _ _ _=>after_same rfl
  simp only [HP] at h7 ha
  have happ:∀ (t:Nat) (h:Heap) (b':Nat),b=true→appR 1 b' h (some t) (some (sl 1 vint c)) (some (.list false 1 [.int .i64 j]))=ifR (decide (b'≤4096)) (some ⟨sl 1 vint s',true,some t,h⟩):=fun t h b' _=>app_vint_O h3
  cases x with
  | none=>
   cases h
   simp only [outB,outR,outE,outP,Option.isNone_none] at h7
   cases b with
   | true=>exact stepO_in (st':=⟨_,_⟩) (by simp only [go_sem,seval,c45_0,St45,HP,h1,h5,app_vint_O h3,h7,ha] <;> rfl) (gc_same (Nat.le_refl _))
   | false=>
    have hc:c=none:=h6.resolve_left (by simp)
    subst hc
    exact stepO_in (st':=⟨_,_⟩) (by simp only [go_sem,seval,c45_0,St45,HP,h1,h5,app_vint_N h3 rfl,h7,ha] <;> rfl) (gc_same (Nat.le_refl _))
  | some x=>
   cases h
   simp only [outB,outR,outE,outP,Option.isNone_some] at h7
   cases b with
   | true=>exact stepO_out (by simp only [go_sem,seval,c45_0,St45,Ex45,HP,h1,h5,app_vint_O h3,h7,ha] <;> rfl)
   | false=>
    have hc:c=none:=h6.resolve_left (by simp)
    subst hc
    exact stepO_out (by simp only [go_sem,seval,c45_0,St45,Ex45,HP,h1,h5,app_vint_N h3 rfl,h7,ha] <;> rfl)
 ·cases h
  exact stepO_out (by simp only [go_sem,seval,c45_0,St45,Ex45,HP,h1] <;> rfl)
theorem W45:∀ (k:Nat) {set:Option (List Int)} {frm:Int} {r:Found},f45 o below n size k set frm=some r→callFn pr (X pr) 45 (call141 set frm) (HP o below R E n size n1 i none)=some (outB r,false,HP o below (outR R r) (outE E r) n size n1 i (outP r))
 | 0,_,_,_,h=>by cases h
 | k + 1,set,frm,r,h=>by
  have h:F45 o below n size (f45 o below n size k) set frm=some r:=h
  unfold F45 at h
  rcases cond_split h with ⟨h1,h⟩ | ⟨h1,h⟩
  ·obtain ⟨c,h2,h⟩:=obind_some h
   obtain ⟨b,h3,h⟩:=obind_some h
   cases h
   obtain ⟨bo,h5,_⟩:=clO_run h2
   have hy:=yield60 (R:=R) (E:=E) (n:=n) (size:=size) (n1:=n1) (i:=i) h3
   unfold call141
   rw [callFn_at (show pr.fns 45=some c45 from rfl) (by simp)]
   simp only [HP] at hy ⊢
   cases b with
   | true=>
    simp only [cond_true,Bool.not_true] at hy
    simp only [go_sem,seval,c45,h1,h5,hy,outB,outR,outE,outP] <;> rfl
   | false=>
    simp only [cond_false,Bool.not_false] at hy
    simp only [go_sem,seval,c45,h1,h5,hy,outB,outR,outE,outP] <;> rfl
  ·obtain ⟨d',h2,h3⟩:=s45_run h
   have hl:X pr (.loop c45_0) (St45 set o below R E n size n1 i frm)=some (Ex45 set o below R E n size n1 i d'):=X_itO (b45 (fun h'=>W45 k h') set) (fun d=>by rcases d with d | d <;> (intro hh; cases hh)) h2
   unfold call141
   rw [callFn_at (show pr.fns 45=some c45 from rfl) (by simp)]
   cases d' with
   | inl j=>
    simp only [] at h3
    subst h3
    simp only [St45,Ex45,HP] at hl ⊢
    simp only [go_sem,seval,c45,h1,hl,outB,outR,outE,outP] <;> rfl
   | inr x=>
    simp only [] at h3
    obtain ⟨rfl,h4⟩:=h3
    cases x with
    | none=>exact absurd rfl h4
    | some x=>
     simp only [St45,Ex45,HP,outR,outE,outP] at hl ⊢
     simp only [go_sem,seval,c45,h1,hl,outB,outR,outE,outP] <;> rfl
end
end Go.Z
/-
 LineProofs: Prove: its run.
-/
namespace Go.Z
open Go Go.Abs
section
variable {o:Option (List GUnit)} {below:Int} {R:AVal} {E n size n1 i:Int}
def H6 (o:Option (List GUnit)) (below:Int) (R:AVal) (E n size:Int):Heap:=
 [.cells [(sl 2 vunit o,false)],.cells [(.int .i64 below,false)],.cells [(R,false)],.cells [(.int .i64 E,false)],.cells [(.int .i64 n,false)],.cells [(.int .i64 size,false)]]
theorem W44 {k:Nat} {r:Found} (h:f45 o below n size k none 0=some r):callFn pr (X pr) 44 [.fn (.yield 6) [] [],.ptr 5 0,.ptr 4 0] (H6 o below R E n size++[.loop ⟨E10 n1 i,[32],as60,bd60,none⟩])=some (.tup [],false,HP o below (outR R r) (outE E r) n size n1 i (outP r)):=by
 have h1:=W45 (R:=R) (E:=E) (n1:=n1) (i:=i) k h
 have ha:∀ v R E pd,afterShared 9 v (HP o below R E n size n1 i pd)=HP o below R E n size n1 i pd:=fun _ _ _ _=>after_same rfl
 unfold call141 at h1
 rw [show sl 1 vint (none:Option (List Int))=.list true 0 [] from rfl] at h1
 rw [callFn_at (show pr.fns 44=some c44 from rfl) (by simp)]
 simp only [HP,H6] at h1 ha ⊢
 simp only [go_sem,seval,c44,h1,ha] <;> rfl
theorem range60 {k:Nat} {r:Found} (hR:Abs.below 6 R=true) (h:f45 o below n size k none 0=some r):X pr rf60 ⟨E10 n1 i,H6 o below R E n size⟩=some (match r with | none=>.normal | some _=>.ret,⟨E10 n1 i,H6 o below (outR R r) (outE E r) n size⟩):=by
 have h1:=W44 (R:=R) (E:=E) (n1:=n1) (i:=i) h
 have hb:belowHeap 6 (H6 o below (outR R r) (outE E r) n size)=true:=by
  have hx:Abs.below 6 (outR R r)=true:=by
   cases r with
   | none=>exact hR
   | some x=>show Abs.below 6 (sl 1 vint x)=true; simp only [go_sem,seval]
  have ho:Abs.below 6 (sl 2 vunit o)=true:=by simp only [go_sem,seval]
  show ((Abs.below 6 (sl 2 vunit o) && true) && ((true && true) && ((Abs.below 6 (outR R r) && true) && ((true && true) && ((true && true) && ((true && true) && true))))))=true
  rw [hx,ho]; rfl
 rw [rf60_eq,X_range]
 unfold xrange
 have hn:(noRange as60 && noRange bd60)=true:=rfl
 have he:evalO (E10 n1 i) (.tmp 31)=some (.fn (.func 44) [] [.ptr 5 0,.ptr 4 0]):=rfl
 have hl:(H6 o below R E n size).length=6:=rfl
 have hg:getBox (HP o below (outR R r) (outE E r) n size n1 i (outP r)) 6=some (.loop ⟨E10 n1 i,[32],as60,bd60,outP r⟩):=rfl
 have ht:(HP o below (outR R r) (outE E r) n size n1 i (outP r)).take 6=H6 o below (outR R r) (outE E r) n size:=rfl
 simp only [hn,cond_true,he,hl,List.nil_append,List.cons_append,h1,hg,ht,hb]
 cases r <;> rfl
noncomputable def s10 (o:Option (List GUnit)) (below:Int) (i:Int):Option (Int ⊕ (Int ⊕ (Int × Option (List Int)))):=
 cond (decide (i < wrapF .i64 (((o.getD []).length:Int) + 1)))
  (obind (f45 o below ((o.getD []).length:Int) i 12 none 0) fun r=>
   match r with
   | none=>some (.inl (wrapF .i64 (i + 1)))
   | some x=>some (.inr (.inr (i,x))))
  (some (.inr (.inl i)))
def H4 (o:Option (List GUnit)) (below:Int) (R:AVal) (E:Int):Heap:=
 [.cells [(sl 2 vunit o,false)],.cells [(.int .i64 below,false)],.cells [(R,false)],.cells [(.int .i64 E,false)]]
def St10 (o:Option (List GUnit)) (below:Int) (i:Int):ASt:=⟨[(2,.ptr 0 0,false),(3,.ptr 1 0,false),(4,.ptr 2 0,false),(5,.ptr 3 0,false),(24,.int .i64 (wrapF .i64 (((o.getD []).length:Int) + 1)),false),(25,.int .i64 i,false)],H4 o below (.list true 0 []) 0⟩
def Ex10 (o:Option (List GUnit)) (below:Int):Int ⊕ (Int × Option (List Int))→AExit × ASt
 | .inl i=>(.exit 0,⟨[(2,.ptr 0 0,false),(3,.ptr 1 0,false),(4,.ptr 2 0,false),(5,.ptr 3 0,false),(24,.int .i64 (wrapF .i64 (((o.getD []).length:Int) + 1)),false),(25,.int .i64 i,false),(26,.bool false,false)],H4 o below (.list true 0 []) 0⟩)
 | .inr x=>(.ret,⟨E10 (wrapF .i64 (((o.getD []).length:Int) + 1)) x.1,H6 o below (sl 1 vint x.2) 0 ((o.getD []).length:Int) x.1⟩)
end
def a60H:ACode:=pcL c10_0
def a60C:ACode:=pcL (pcR c10_0)
def a60B:ACode:=pcB (pcL (pcR (pcR c10_0)))
def a60a:ACode:=pcL a60B
def a60b:ACode:=pcL (pcR a60B)
def a60E:ACode:=pcR (pcR (pcR c10_0))
theorem c10_0_eq:c10_0=.seq a60H (.seq a60C (.seq (.block 1 (.seq a60a (.seq a60b (.block 2 rf60)))) a60E)):=rfl
theorem W25 {o:Option (List GUnit)} {below n size:Int}:callFn pr (X pr) 25 [.int .i64 n,.int .i64 size] (H4 o below (.list true 0 []) 0)=some (.fn (.func 44) [] [.ptr 5 0,.ptr 4 0],false,H6 o below (.list true 0 []) 0 n size):=by
 rw [callFn_at (show pr.fns 25=some c25 from rfl) (by simp)]
 simp only [go_sem,seval,c25,H4,H6] <;> rfl
theorem b10 {o:Option (List GUnit)} {below:Int} (i:Int) (r) (h:s10 o below i=some r):stepO pr c10_0 (St10 o below) (Ex10 o below) i r:=by
 unfold s10 at h
 rcases cond_split h with ⟨h1,h⟩ | ⟨h1,h⟩
 ·obtain ⟨x,h2,h⟩:=obind_some h
  have h3:=range60 (R:=.list true 0 []) (E:=0) (n1:=wrapF .i64 (((o.getD []).length:Int) + 1)) (i:=i) rfl h2
  have h4:=W25 (o:=o) (below:=below) (n:=((o.getD []).length:Int)) (size:=i)
  have ha:afterShared 4 (.fn (.func 44) [] [.ptr 5 0,.ptr 4 0]) (H6 o below (.list true 0 []) 0 ((o.getD []).length:Int) i)=H6 o below (.list true 0 []) 0 ((o.getD []).length:Int) i:=rfl
  have rH:X pr a60H (St10 o below i)=some (.normal,⟨[(2,.ptr 0 0,false),(3,.ptr 1 0,false),(4,.ptr 2 0,false),(5,.ptr 3 0,false),(24,.int .i64 (wrapF .i64 (((o.getD []).length:Int) + 1)),false),(25,.int .i64 i,false),(26,.bool true,false)],H4 o below (.list true 0 []) 0⟩):=by
   simp only [go_sem,seval,a60H,pcL,c10_0,St10,H4,h1] <;> rfl
  have rC:X pr a60C ⟨[(2,.ptr 0 0,false),(3,.ptr 1 0,false),(4,.ptr 2 0,false),(5,.ptr 3 0,false),(24,.int .i64 (wrapF .i64 (((o.getD []).length:Int) + 1)),false),(25,.int .i64 i,false),(26,.bool true,false)],H4 o below (.list true 0 []) 0⟩=some (.normal,⟨[(2,.ptr 0 0,false),(3,.ptr 1 0,false),(4,.ptr 2 0,false),(5,.ptr 3 0,false),(24,.int .i64 (wrapF .i64 (((o.getD []).length:Int) + 1)),false),(25,.int .i64 i,false),(26,.bool true,false)],H4 o below (.list true 0 []) 0⟩):=by
   simp only [go_sem,seval,a60C,pcL,pcR,c10_0] <;> rfl
  have ra:X pr a60a ⟨[(2,.ptr 0 0,false),(3,.ptr 1 0,false),(4,.ptr 2 0,false),(5,.ptr 3 0,false),(24,.int .i64 (wrapF .i64 (((o.getD []).length:Int) + 1)),false),(25,.int .i64 i,false),(26,.bool true,false)],H4 o below (.list true 0 []) 0⟩=some (.normal,⟨[(2,.ptr 0 0,false),(3,.ptr 1 0,false),(4,.ptr 2 0,false),(5,.ptr 3 0,false),(7,.int .i64 i,false),(24,.int .i64 (wrapF .i64 (((o.getD []).length:Int) + 1)),false),(25,.int .i64 i,false)],H4 o below (.list true 0 []) 0⟩):=by
   simp only [go_sem,seval,a60a,a60B,pcL,pcR,pcB,c10_0] <;> rfl
  have rb:X pr a60b ⟨[(2,.ptr 0 0,false),(3,.ptr 1 0,false),(4,.ptr 2 0,false),(5,.ptr 3 0,false),(7,.int .i64 i,false),(24,.int .i64 (wrapF .i64 (((o.getD []).length:Int) + 1)),false),(25,.int .i64 i,false)],H4 o below (.list true 0 []) 0⟩=some (.normal,⟨E10 (wrapF .i64 (((o.getD []).length:Int) + 1)) i,H6 o below (.list true 0 []) 0 ((o.getD []).length:Int) i⟩):=by
   simp only [H4] at h4 ⊢
   simp only [go_sem,seval,a60b,a60B,pcL,pcR,pcB,c10_0,h4,ha] <;> rfl
  cases x with
  | some x=>
   cases h
   simp only [outR,outE] at h3
   refine stepO_out ?_
   rw [c10_0_eq]
   simp only [go_sem,seval,rH,rC,ra,rb,h3,Ex10]
  | none=>
   cases h
   simp only [outR,outE] at h3
   have rE:X pr a60E ⟨E10 (wrapF .i64 (((o.getD []).length:Int) + 1)) i,H6 o below (.list true 0 []) 0 ((o.getD []).length:Int) i⟩=some (.normal,⟨[(2,.ptr 0 0,false),(3,.ptr 1 0,false),(4,.ptr 2 0,false),(5,.ptr 3 0,false),(24,.int .i64 (wrapF .i64 (((o.getD []).length:Int) + 1)),false),(25,.int .i64 (wrapF .i64 (i + 1)),false)],H6 o below (.list true 0 []) 0 ((o.getD []).length:Int) i⟩):=by
    simp only [go_sem,seval,a60E,pcR,c10_0,E10] <;> rfl
   refine stepO_in (st':=⟨_,_⟩) ?_ (gc_over (h:=H4 o below (.list true 0 []) 0) (h':=[.cells [(.int .i64 ((o.getD []).length:Int),false)],.cells [(.int .i64 i,false)]]) rfl rfl rfl ?_)
   ·rw [c10_0_eq]
    simp only [go_sem,seval,rH,rC,ra,rb,h3,rE] <;> rfl
   ·have ho:Abs.below 4 (sl 2 vunit o)=true:=by simp only [go_sem,seval]
    show ((Abs.below 4 (sl 2 vunit o) && true) && ((true && true) && ((true && true) && ((true && true) && true))))=true
    rw [ho]; rfl
 ·cases h
  have rH:X pr a60H (St10 o below i)=some (.normal,⟨[(2,.ptr 0 0,false),(3,.ptr 1 0,false),(4,.ptr 2 0,false),(5,.ptr 3 0,false),(24,.int .i64 (wrapF .i64 (((o.getD []).length:Int) + 1)),false),(25,.int .i64 i,false),(26,.bool false,false)],H4 o below (.list true 0 []) 0⟩):=by
   simp only [go_sem,seval,a60H,pcL,c10_0,St10,H4,h1] <;> rfl
  have rC:X pr a60C ⟨[(2,.ptr 0 0,false),(3,.ptr 1 0,false),(4,.ptr 2 0,false),(5,.ptr 3 0,false),(24,.int .i64 (wrapF .i64 (((o.getD []).length:Int) + 1)),false),(25,.int .i64 i,false),(26,.bool false,false)],H4 o below (.list true 0 []) 0⟩=some (.exit 0,⟨[(2,.ptr 0 0,false),(3,.ptr 1 0,false),(4,.ptr 2 0,false),(5,.ptr 3 0,false),(24,.int .i64 (wrapF .i64 (((o.getD []).length:Int) + 1)),false),(25,.int .i64 i,false),(26,.bool false,false)],H4 o below (.list true 0 []) 0⟩):=by
   simp only [go_sem,seval,a60C,pcL,pcR,c10_0] <;> rfl
  refine stepO_out ?_
  rw [c10_0_eq]
  simp only [go_sem,seval,rH,rC,Ex10]
noncomputable def f10 (o:Option (List GUnit)) (below:Int):Option (Option (List Int) × Int):=
 obind (E4 o) fun v10=>
 obind (E58 (decide (8 < ((o.getD []).length:Int))) 23) fun v14=>
 obind (f24 below) fun v16=>
 obind (E12 (some [v10,v14,v16])) fun v18=>
 cond (decide (v18=0))
  (obind (itO (s10 o below) 0) fun d=>match d with
   | .inl _=>some (none,7)
   | .inr x=>some (x.2,0))
  (some (none,v18))
theorem W10 {o:Option (List GUnit)} {below:Int} {r} (h:f10 o below=some r):callIso pr (X pr) 10 [sl 2 vunit o,.int .i64 below]=some (.tup [sl 1 vint r.1,.int .i64 r.2],false):=by
 unfold f10 at h
 obtain ⟨v10,h1,h⟩:=obind_some h
 obtain ⟨v14,h2,h⟩:=obind_some h
 obtain ⟨v16,h3,h⟩:=obind_some h
 obtain ⟨v18,h4,h⟩:=obind_some h
 have w1:=WE19 h1
 have w2:=WE20 h2
 have w3:=W24 h3
 have w4:callIso pr (X pr) 18 [.list false 1 [.int .i64 v10,.int .i64 v14,.int .i64 v16]]=some (.int .i64 v18,false):=WE18 h4
 rcases cond_split h with ⟨h5,h⟩ | ⟨h5,h⟩
 ·obtain ⟨d,h6,h⟩:=obind_some h
  have hl:X pr (.loop c10_0) (St10 o below 0)=some (Ex10 o below d):=X_itO b10 (fun d=>by rcases d with d | d <;> (intro hh; cases hh)) h6
  cases d with
  | inl i=>
   cases h
   simp only [St10,Ex10,H4] at hl
   have this:∃ hh,callFn pr (X pr) 10 [sl 2 vunit o,.int .i64 below] []=some (.tup [sl 1 vint (none:Option (List Int)),.int .i64 7],false,hh):=by
    rw [callFn_at (show pr.fns 10=some c10 from rfl) (by simp)]
    simp only [go_sem,seval,c10,w1,w2,w3,w4,h5,hl]
    exact ⟨_,rfl⟩
   obtain ⟨hh,this⟩:=this
   exact callIso_of rfl this (by first | rfl | simp only [go_sem,seval]) (by first | rfl | simp only [go_sem,seval])
  | inr x=>
   cases h
   simp only [St10,Ex10,H4,H6,E10] at hl
   have this:∃ hh,callFn pr (X pr) 10 [sl 2 vunit o,.int .i64 below] []=some (.tup [sl 1 vint x.2,.int .i64 0],false,hh):=by
    rw [callFn_at (show pr.fns 10=some c10 from rfl) (by simp)]
    simp only [go_sem,seval,c10,w1,w2,w3,w4,h5,hl]
    exact ⟨_,rfl⟩
   obtain ⟨hh,this⟩:=this
   exact callIso_of rfl this (by first | rfl | simp only [go_sem,seval]) (by first | rfl | simp only [go_sem,seval])
 ·cases h
  have this:∃ hh,callFn pr (X pr) 10 [sl 2 vunit o,.int .i64 below] []=some (.tup [sl 1 vint (none:Option (List Int)),.int .i64 v18],false,hh):=by
   rw [callFn_at (show pr.fns 10=some c10 from rfl) (by simp)]
   simp only [go_sem,seval,c10,w1,w2,w3,w4,h5]
   exact ⟨_,rfl⟩
  obtain ⟨hh,this⟩:=this
  exact callIso_of rfl this (by first | rfl | simp only [go_sem,seval]) (by first | rfl | simp only [go_sem,seval])
end Go.Z
