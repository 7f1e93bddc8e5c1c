/-
  Contracts as functions, for the printed walks: pairs of units.
-/
import Derived.Test.YtbjckbpblomblaaB1
import Derived.Test.YtbjckbpblomblaaL5
import Derived.Test.YtbjckbpblomblaaL8
import Derived.Test.YtbjckbpblomblaaG0
import Derived.Test.YtbjckbpblomblaaG0m
import Derived.Test.YtbjckbpblomblaaL14
set_option linter.unusedVariables false
set_option linter.unusedSimpArgs false
set_option maxRecDepth 100000
namespace Go.Z
open Go Go.Abs
structure GPair where
 a:Int
 b:Int
def vpair (p:GPair):AVal:=.agg [.int .i64 p.a,.int .i64 p.b]
@[go_sem] theorem flat_vpair {p:GPair}:(vpair p).flat=[.int .i64 p.a,.int .i64 p.b]:=rfl
@[go_sem] theorem below_vpair {n:Nat} (p:GPair):below n (vpair p)=true:=rfl
@[go_sem] theorem below_pairs {n:Nat} {l:Option (List GPair)}:below n (sl 2 vpair l)=true:=below_sl fun _=>rfl
@[go_sem] theorem loadR_vpair {h0:Nat} {al:Option (List Nat)} {h:Heap} {p:GPair}:loadR h0 al true 2 h (some (.vptr (vpair p)))=some ⟨.agg [.int .i64 p.a,.int .i64 p.b],false,none,h⟩:=rfl
@[go_sem] theorem indexArr_vpair0 {h:Heap} {k:IntKind} {p:GPair}:indexArrR false 2 1 h (some (.vptr (vpair p))) (some (.int k 0))=some ⟨.vptr (.int .i64 p.a),false,none,h⟩:=rfl
@[go_sem] theorem indexArr_vpair1 {h:Heap} {k:IntKind} {p:GPair}:indexArrR false 2 1 h (some (.vptr (vpair p))) (some (.int k 1))=some ⟨.vptr (.int .i64 p.b),false,none,h⟩:=rfl
theorem app_vpair_O {b t:Nat} {h:Heap} {bb:Bool} {x:GPair} {o v:Option (List GPair)} (hv:apO o [x]=some v):appR 2 b h (some t) (some (sl 2 vpair o)) (some (.list bb 2 [.agg [.int .i64 x.a,.int .i64 x.b]]))=ifR (decide (b≤4096)) (some ⟨sl 2 vpair v,true,some t,h⟩):=app_el (x:=x) (by omega) rfl hv
noncomputable def E4 (o:Option (List GUnit)):Option Int:=exO ((o.getD []).length≤1073741824∧∀ u∈o.getD [],sizeU u) (unitsE (o.getD []))
theorem WE19 {o r} (h:E4 o=some r):callIso pr (X pr) 19 [sl 2 vunit o]=some (.int .i64 r,false):=by obtain ⟨⟨h1,h2⟩,rfl⟩:=exO_some h; exact I19 _ h1 h2
def someL (o:Option (List Int)):Prop:=(o.getD []).length≤1073741824∧o.getD [] ≠ []
noncomputable def E39 (o:Option (List Int)):Option Int:=exO (someL o) (maxL (o.getD []))
theorem WE39 {o r} (h:E39 o=some r):callIso pr (X pr) 39 [sl 1 vint o]=some (.int .i64 r,false):=by
 obtain ⟨⟨h1,h2⟩,rfl⟩:=exO_some h
 cases o with
 | none=>exact absurd rfl h2
 | some l=>cases l with
  | nil=>exact absurd rfl h2
  | cons x l=>exact I39 l x h1
def E37n (o:Option (List GPair)):Option Unit:=if o.isNone then some () else none
theorem WE37n {o r} (h:E37n o=some r):callIso pr (X pr) 37 [sl 2 vpair o]=some (.list true 0 [],false):=by
 cases o with
 | some l=>cases h
 | none=>
  have:callFn pr (X pr) 37 [sl 2 vpair (none:Option (List GPair))] []=some (.list true 0 [],false,[]):=by
   rw [callFn_at (show pr.fns 37=some c37 from rfl) (by simp)]
   simp only [go_sem,seval,c37,Option.isNone_none]
  exact callIso_of rfl this rfl rfl
noncomputable def E37 (o:Option (List GPair)):Option (Option (List GPair)):=exO ((o.getD []).length≤1073741824∧o ≠ none) o
theorem WE37 {o r} (h:E37 o=some r):callIso pr (X pr) 37 [sl 2 vpair o]=some (sl 2 vpair r,true):=by
 obtain ⟨h1,rfl⟩:=exO_some h
 cases o with
 | none=>exact absurd rfl h1.2
 | some l=>
  have hl:l.length≤1073741824:=h1.1
  have:callFn pr (X pr) 37 [sl 2 vpair (some l)] []=some (.list false 2 (l.map vpair),true,[]):=by
   rw [callFn_at (show pr.fns 37=some c37 from rfl) (by simp)]
   simp only [go_sem,seval,c37,Option.isNone_some,Option.getD_some,List.length_map,Nat.zero_add,hl]
  exact callIso_of rfl this rfl (by simp only [go_sem,seval])
end Go.Z
/-
 Pairs: functions that mirror the runs,and the runs (printed by walk.py).
-/
set_option maxHeartbeats 4000000
namespace Go.Z
open Go Go.Abs
noncomputable def s42_0 (a0:GUnit) (a1:GUnit) (s1000:Int × Int):Option ((Int × Int) ⊕ ((Int × Int))):=
 cond (decide (s1000.2 < ((a0.values.getD []).length:Int)))
  (obind (idxO (a0.values.getD []) s1000.2) fun v12=>
  obind (idxO (a1.values.getD []) s1000.2) fun v14=>
  some (.inl (max (max s1000.1 (wrapF .i64 (v12 - v14))) (wrapF .i64 (v14 - v12)),wrapF .i64 (s1000.2 + 1))))
  (some (.inr (s1000.1,s1000.2)))
def St42_0 (a0:GUnit) (a1:GUnit) (s1000:Int × Int):ASt:=⟨[(3,.ptr 1 0,false),(5,.int .i64 s1000.1,false),(9,sl 1 vint a0.values,false),(10,.int .i64 ((a0.values.getD []).length:Int),false),(11,.int .i64 s1000.2,false)],[.cells [(.str a0.serial,false),(sl 1 vint a0.values,false)],.cells [(.str a1.serial,false),(sl 1 vint a1.values,false)]]⟩
def Ex42_0 (a0:GUnit) (a1:GUnit) (d:(Int × Int)):AExit × ASt:=(.exit 0,⟨[(3,.ptr 1 0,false),(5,.int .i64 d.1,false),(9,sl 1 vint a0.values,false),(10,.int .i64 ((a0.values.getD []).length:Int),false),(11,.int .i64 d.2,false),(12,.bool false,false)],[.cells [(.str a0.serial,false),(sl 1 vint a0.values,false)],.cells [(.str a1.serial,false),(sl 1 vint a1.values,false)]]⟩)
theorem b42_0 (a0:GUnit) (a1:GUnit) (s1000:Int × Int) (r) (h:s42_0 a0 a1 s1000=some r):stepO pr c42_0 (St42_0 a0 a1) (Ex42_0 a0 a1) s1000 r:=by
 unfold s42_0 at h
 rcases cond_split h with ⟨h11,h⟩ | ⟨h11,h⟩
 ·obtain ⟨v12,h13,h⟩:=obind_some h
  obtain ⟨v14,h15,h⟩:=obind_some h
  cases h
  exact stepO_in (st':=⟨[(3,.ptr 1 0,false),(5,.int .i64 (max (max s1000.1 (wrapF .i64 (v12 - v14))) (wrapF .i64 (v14 - v12))),false),(9,sl 1 vint a0.values,false),(10,.int .i64 ((a0.values.getD []).length:Int),false),(11,.int .i64 (wrapF .i64 (s1000.2 + 1)),false)],[.cells [(.str a0.serial,false),(sl 1 vint a0.values,false)],.cells [(.str a1.serial,false),(sl 1 vint a1.values,false)]]⟩) (by simp only [go_sem,seval,c42_0,St42_0,h11,idxR_O h13,idxR_O h15] <;> rfl) (gc_same (Nat.le_refl _))
 ·cases h
  exact stepO_out (by simp only [go_sem,seval,c42_0,St42_0,h11,Ex42_0] <;> rfl)
theorem l42_0 (a0:GUnit) (a1:GUnit) {s1000:Int × Int} {d} (h:itO (s42_0 a0 a1) s1000=some d):X pr (.loop c42_0) (St42_0 a0 a1 s1000)=some (Ex42_0 a0 a1 d):=X_itO (b42_0 a0 a1) (fun d hh=>by cases hh) h
noncomputable def f42 (a0:GUnit) (a1:GUnit):Option Int:=
 obind (itO (s42_0 a0 a1) (0,0)) fun d16=>
 some d16.1
theorem W42 {a0:GUnit} {a1:GUnit} {r} (h:f42 a0 a1=some r):callIso pr (X pr) 42 [.agg [.str a0.serial,sl 1 vint a0.values],.agg [.str a1.serial,sl 1 vint a1.values]]=some (.int .i64 r,false):=by
 unfold f42 at h
 obtain ⟨d16,h17,h⟩:=obind_some h
 have wh17:X pr (.loop c42_0) ⟨[(3,.ptr 1 0,false),(5,.int .i64 0,false),(9,sl 1 vint a0.values,false),(10,.int .i64 ((a0.values.getD []).length:Int),false),(11,.int .i64 0,false)],[.cells [(.str a0.serial,false),(sl 1 vint a0.values,false)],.cells [(.str a1.serial,false),(sl 1 vint a1.values,false)]]⟩=some (.exit 0,⟨[(3,.ptr 1 0,false),(5,.int .i64 d16.1,false),(9,sl 1 vint a0.values,false),(10,.int .i64 ((a0.values.getD []).length:Int),false),(11,.int .i64 d16.2,false),(12,.bool false,false)],[.cells [(.str a0.serial,false),(sl 1 vint a0.values,false)],.cells [(.str a1.serial,false),(sl 1 vint a1.values,false)]]⟩):=l42_0 a0 a1 h17
 have hr:d16.1=r:=Option.some.inj h
 subst hr
 have this:∃ hh,callFn pr (X pr) 42 [.agg [.str a0.serial,sl 1 vint a0.values],.agg [.str a1.serial,sl 1 vint a1.values]] []=some (.int .i64 d16.1,false,hh):=by
  rw [callFn_at (show pr.fns 42=some c42 from rfl) (by simp)]
  simp only [go_sem,seval,c42,wh17]
  exact ⟨_,rfl⟩
 obtain ⟨hh,this⟩:=this
 exact callIso_of rfl this (by first | rfl | simp only [go_sem,seval]) (by first | rfl | simp only [go_sem,seval])
noncomputable def s22_0 (a0:Option (List GUnit)) (s1000:(Option (List Int)) × Int × Bool):Option (((Option (List Int)) × Int × Bool) ⊕ (((Option (List Int)) × Bool × Int))):=
 cond (decide (s1000.2.1 < ((a0.getD []).length:Int)))
  (cond s1000.2.2
   (obind (apO s1000.1 [s1000.2.1]) fun v11=>
   some (.inl (v11,wrapF .i64 (s1000.2.1 + 1),true)))
   (cond s1000.1.isNone
    (obind (apO s1000.1 [s1000.2.1]) fun v14=>
    some (.inl (v14,wrapF .i64 (s1000.2.1 + 1),true)))
    (none)))
  (some (.inr (s1000.1,s1000.2.2,s1000.2.1)))
def St22_0 (a0:Option (List GUnit)) (s1000:(Option (List Int)) × Int × Bool):ASt:=⟨[(3,sl 1 vint s1000.1,s1000.2.2),(6,.int .i64 ((a0.getD []).length:Int),false),(7,.int .i64 s1000.2.1,false)],[]⟩
def Ex22_0 (a0:Option (List GUnit)) (d:((Option (List Int)) × Bool × Int)):AExit × ASt:=(.exit 0,⟨[(3,sl 1 vint d.1,d.2.1),(6,.int .i64 ((a0.getD []).length:Int),false),(7,.int .i64 d.2.2,false),(8,.bool false,false)],[]⟩)
theorem b22_0 (a0:Option (List GUnit)) (s1000:(Option (List Int)) × Int × Bool) (r) (h:s22_0 a0 s1000=some r):stepO pr c22_0 (St22_0 a0) (Ex22_0 a0) s1000 r:=by
 unfold s22_0 at h
 rcases cond_split h with ⟨h9,h⟩ | ⟨h9,h⟩
 ·rcases cond_split h with ⟨h10,h⟩ | ⟨h10,h⟩
  ·obtain ⟨v11,h12,h⟩:=obind_some h
   cases h
   exact stepO_in (st':=⟨[(3,sl 1 vint v11,true),(6,.int .i64 ((a0.getD []).length:Int),false),(7,.int .i64 (wrapF .i64 (s1000.2.1 + 1)),false)],[]⟩) (by simp only [go_sem,seval,c22_0,St22_0,h9,h10,app_vint_O h12] <;> rfl) (gc_same (Nat.le_refl _))
  ·rcases cond_split h with ⟨h13,h⟩ | ⟨h13,h⟩
   ·obtain ⟨v14,h15,h⟩:=obind_some h
    cases h
    exact stepO_in (st':=⟨[(3,sl 1 vint v14,true),(6,.int .i64 ((a0.getD []).length:Int),false),(7,.int .i64 (wrapF .i64 (s1000.2.1 + 1)),false)],[]⟩) (by simp only [go_sem,seval,c22_0,St22_0,h9,h10,h13,app_vint_N h15 h13] <;> rfl) (gc_same (Nat.le_refl _))
   ·cases h
 ·cases h
  exact stepO_out (by simp only [go_sem,seval,c22_0,St22_0,h9,Ex22_0] <;> rfl)
theorem l22_0 (a0:Option (List GUnit)) {s1000:(Option (List Int)) × Int × Bool} {d} (h:itO (s22_0 a0) s1000=some d):X pr (.loop c22_0) (St22_0 a0 s1000)=some (Ex22_0 a0 d):=X_itO (b22_0 a0) (fun d hh=>by cases hh) h
noncomputable def f22 (a0:Option (List GUnit)):Option ((Option (List Int)) × Bool):=
 obind (itO (s22_0 a0) (none,0,false)) fun d16=>
 some (d16.1,d16.2.1)
theorem W22 {a0:Option (List GUnit)} {r} (h:f22 a0=some r):callIso pr (X pr) 22 [sl 2 vunit a0]=some (sl 1 vint r.1,r.2):=by
 unfold f22 at h
 obtain ⟨d16,h17,h⟩:=obind_some h
 have wh17:X pr (.loop c22_0) ⟨[(3,.list true 0 [],false),(6,.int .i64 ((a0.getD []).length:Int),false),(7,.int .i64 0,false)],[]⟩=some (.exit 0,⟨[(3,sl 1 vint d16.1,d16.2.1),(6,.int .i64 ((a0.getD []).length:Int),false),(7,.int .i64 d16.2.2,false),(8,.bool false,false)],[]⟩):=l22_0 a0 h17
 have hr:(d16.1,d16.2.1)=r:=Option.some.inj h
 subst hr
 have this:∃ hh,callFn pr (X pr) 22 [sl 2 vunit a0] []=some (sl 1 vint d16.1,d16.2.1,hh):=by
  rw [callFn_at (show pr.fns 22=some c22 from rfl) (by simp)]
  simp only [go_sem,seval,c22,wh17]
  exact ⟨_,rfl⟩
 obtain ⟨hh,this⟩:=this
 exact callIso_of_dyn rfl this (by first | rfl | simp only [go_sem,seval]) (by first | rfl | simp only [go_sem,seval]) (by first | rfl | simp only [go_sem,seval])
noncomputable def f41 (a0:GPair) (c1000_0:Option (List GUnit)) (c1001_0:Int) (c1001_1:Int):Option Int:=
 obind (idxO (c1000_0.getD []) a0.a) fun v1=>
 obind (idxO (c1000_0.getD []) a0.b) fun v3=>
 obind (f42 v1 v3) fun v5=>
 some v5
theorem W41 {a0:GPair} {c1000_0:Option (List GUnit)} {c1001_0:Int} {c1001_1:Int} {r} (h:f41 a0 c1000_0 c1001_0 c1001_1=some r):callFn pr (X pr) 41 [.agg [.int .i64 a0.a,.int .i64 a0.b],.ptr 0 0] [.cells [(sl 2 vunit c1000_0,false)],.cells [(.int .i64 c1001_0,false),(.int .i64 c1001_1,false)]]=some (.int .i64 r,false,[.cells [(sl 2 vunit c1000_0,false)],.cells [(.int .i64 c1001_0,false),(.int .i64 c1001_1,false)],.cells [(.int .i64 a0.a,false),(.int .i64 a0.b,false)]]):=by
 unfold f41 at h
 obtain ⟨v1,h2,h⟩:=obind_some h
 obtain ⟨v3,h4,h⟩:=obind_some h
 obtain ⟨v5,h6,h⟩:=obind_some h
 have wh6:callIso pr (X pr) 42 [.agg [.str v1.serial,sl 1 vint v1.values],.agg [.str v3.serial,sl 1 vint v3.values]]=some (.int .i64 v5,false):=W42 h6
 have hr:v5=r:=Option.some.inj h
 subst hr
 rw [callFn_at (show pr.fns 41=some c41 from rfl) (by simp)]
 simp only [go_sem,seval,c41,idxR_O h2,idxR_O h4,wh6] <;> rfl
noncomputable def s40_0 (a0:Option (List GPair)) (c1000_0:Option (List GUnit)) (s1000:(Option (List Int)) × Int × Bool):Option (((Option (List Int)) × Int × Bool) ⊕ (((Option (List Int)) × Bool × Int))):=
 cond (decide (s1000.2.1 < ((a0.getD []).length:Int)))
  (obind (idxO (a0.getD []) s1000.2.1) fun v18=>
  obind (f41 v18 c1000_0 v18.a v18.b) fun v20=>
  cond s1000.2.2
   (obind (apO s1000.1 [v20]) fun v23=>
   some (.inl (v23,wrapF .i64 (s1000.2.1 + 1),true)))
   (cond s1000.1.isNone
    (obind (apO s1000.1 [v20]) fun v26=>
    some (.inl (v26,wrapF .i64 (s1000.2.1 + 1),true)))
    (none)))
  (some (.inr (s1000.1,s1000.2.2,s1000.2.1)))
def St40_0 (a0:Option (List GPair)) (c1000_0:Option (List GUnit)) (s1000:(Option (List Int)) × Int × Bool):ASt:=⟨[(1,.fn (.func 41) [] [.ptr 0 0],false),(5,sl 1 vint s1000.1,s1000.2.2),(8,sl 2 vpair a0,false),(9,.int .i64 ((a0.getD []).length:Int),false),(10,.int .i64 s1000.2.1,false)],[.cells [(sl 2 vunit c1000_0,false)]]⟩
def Ex40_0 (a0:Option (List GPair)) (c1000_0:Option (List GUnit)) (d:((Option (List Int)) × Bool × Int)):AExit × ASt:=(.exit 0,⟨[(1,.fn (.func 41) [] [.ptr 0 0],false),(5,sl 1 vint d.1,d.2.1),(8,sl 2 vpair a0,false),(9,.int .i64 ((a0.getD []).length:Int),false),(10,.int .i64 d.2.2,false),(11,.bool false,false)],[.cells [(sl 2 vunit c1000_0,false)]]⟩)
theorem b40_0 (a0:Option (List GPair)) (c1000_0:Option (List GUnit)) (s1000:(Option (List Int)) × Int × Bool) (r) (h:s40_0 a0 c1000_0 s1000=some r):stepO pr c40_0 (St40_0 a0 c1000_0) (Ex40_0 a0 c1000_0) s1000 r:=by
 unfold s40_0 at h
 rcases cond_split h with ⟨h17,h⟩ | ⟨h17,h⟩
 ·obtain ⟨v18,h19,h⟩:=obind_some h
  obtain ⟨v20,h21,h⟩:=obind_some h
  have wh21:callFn pr (X pr) 41 [.agg [.int .i64 v18.a,.int .i64 v18.b],.ptr 0 0] [.cells [(sl 2 vunit c1000_0,false)],.cells [(.int .i64 v18.a,false),(.int .i64 v18.b,false)]]=some (.int .i64 v20,false,[.cells [(sl 2 vunit c1000_0,false)],.cells [(.int .i64 v18.a,false),(.int .i64 v18.b,false)],.cells [(.int .i64 v18.a,false),(.int .i64 v18.b,false)]]):=W41 h21
  rcases cond_split h with ⟨h22,h⟩ | ⟨h22,h⟩
  ·obtain ⟨v23,h24,h⟩:=obind_some h
   cases h
   exact stepO_in (st':=⟨[(1,.fn (.func 41) [] [.ptr 0 0],false),(5,sl 1 vint v23,true),(8,sl 2 vpair a0,false),(9,.int .i64 ((a0.getD []).length:Int),false),(10,.int .i64 (wrapF .i64 (s1000.2.1 + 1)),false)],[.cells [(sl 2 vunit c1000_0,false)]]++[.cells [(.int .i64 v18.a,false),(.int .i64 v18.b,false)]]⟩) (by simp only [go_sem,seval,c40_0,St40_0,h17,idxR_O h19,wh21,h22,app_vint_O h24] <;> rfl) (gc_over rfl rfl (by first | simp only [go_sem,seval,St40_0] | rfl) (by first | simp only [go_sem,seval,St40_0] | rfl))
  ·rcases cond_split h with ⟨h25,h⟩ | ⟨h25,h⟩
   ·obtain ⟨v26,h27,h⟩:=obind_some h
    cases h
    exact stepO_in (st':=⟨[(1,.fn (.func 41) [] [.ptr 0 0],false),(5,sl 1 vint v26,true),(8,sl 2 vpair a0,false),(9,.int .i64 ((a0.getD []).length:Int),false),(10,.int .i64 (wrapF .i64 (s1000.2.1 + 1)),false)],[.cells [(sl 2 vunit c1000_0,false)]]++[.cells [(.int .i64 v18.a,false),(.int .i64 v18.b,false)]]⟩) (by simp only [go_sem,seval,c40_0,St40_0,h17,idxR_O h19,wh21,h22,h25,app_vint_N h27 h25] <;> rfl) (gc_over rfl rfl (by first | simp only [go_sem,seval,St40_0] | rfl) (by first | simp only [go_sem,seval,St40_0] | rfl))
   ·cases h
 ·cases h
  exact stepO_out (by simp only [go_sem,seval,c40_0,St40_0,h17,Ex40_0] <;> rfl)
theorem l40_0 (a0:Option (List GPair)) (c1000_0:Option (List GUnit)) {s1000:(Option (List Int)) × Int × Bool} {d} (h:itO (s40_0 a0 c1000_0) s1000=some d):X pr (.loop c40_0) (St40_0 a0 c1000_0 s1000)=some (Ex40_0 a0 c1000_0 d):=X_itO (b40_0 a0 c1000_0) (fun d hh=>by cases hh) h
noncomputable def f40 (a0:Option (List GPair)) (c1000_0:Option (List GUnit)):Option ((Option (List Int)) × Bool):=
 obind (itO (s40_0 a0 c1000_0) (none,0,false)) fun d28=>
 some (d28.1,d28.2.1)
theorem W40 {a0:Option (List GPair)} {c1000_0:Option (List GUnit)} {r} (h:f40 a0 c1000_0=some r):callFn pr (X pr) 40 [sl 2 vpair a0,.fn (.func 41) [] [.ptr 0 0]] [.cells [(sl 2 vunit c1000_0,false)]]=some (sl 1 vint r.1,r.2,[.cells [(sl 2 vunit c1000_0,false)]]):=by
 unfold f40 at h
 obtain ⟨d28,h29,h⟩:=obind_some h
 have wh29:X pr (.loop c40_0) ⟨[(1,.fn (.func 41) [] [.ptr 0 0],false),(5,.list true 0 [],false),(8,sl 2 vpair a0,false),(9,.int .i64 ((a0.getD []).length:Int),false),(10,.int .i64 0,false)],[.cells [(sl 2 vunit c1000_0,false)]]⟩=some (.exit 0,⟨[(1,.fn (.func 41) [] [.ptr 0 0],false),(5,sl 1 vint d28.1,d28.2.1),(8,sl 2 vpair a0,false),(9,.int .i64 ((a0.getD []).length:Int),false),(10,.int .i64 d28.2.2,false),(11,.bool false,false)],[.cells [(sl 2 vunit c1000_0,false)]]⟩):=l40_0 a0 c1000_0 h29
 have hr:(d28.1,d28.2.1)=r:=Option.some.inj h
 subst hr
 rw [callFn_at (show pr.fns 40=some c40 from rfl) (by simp)]
 simp only [go_sem,seval,c40,wh29] <;> rfl
noncomputable def f23 (a0:Option (List GUnit)) (a1:Option (List GPair)):Option Int:=
 obind (f40 a1 a0) fun v1=>
 cond v1.2
  (obind (apO v1.1 [0]) fun v4=>
  obind (E39 v4) fun v6=>
  some v6)
  (cond v1.1.isNone
   (obind (apO v1.1 [0]) fun v9=>
   obind (E39 v9) fun v11=>
   some v11)
   (none))
theorem W23 {a0:Option (List GUnit)} {a1:Option (List GPair)} {r} (h:f23 a0 a1=some r):callIso pr (X pr) 23 [sl 2 vunit a0,sl 2 vpair a1]=some (.int .i64 r,false):=by
 unfold f23 at h
 obtain ⟨v1,h2,h⟩:=obind_some h
 have wh2:callFn pr (X pr) 40 [sl 2 vpair a1,.fn (.func 41) [] [.ptr 0 0]] [.cells [(sl 2 vunit a0,false)]]=some (sl 1 vint v1.1,v1.2,[.cells [(sl 2 vunit a0,false)]]):=W40 h2
 rcases cond_split h with ⟨h3,h⟩ | ⟨h3,h⟩
 ·obtain ⟨v4,h5,h⟩:=obind_some h
  obtain ⟨v6,h7,h⟩:=obind_some h
  have wh7:callIso pr (X pr) 39 [sl 1 vint v4]=some (.int .i64 v6,false):=WE39 h7
  have hr:v6=r:=Option.some.inj h
  subst hr
  have this:∃ hh,callFn pr (X pr) 23 [sl 2 vunit a0,sl 2 vpair a1] []=some (.int .i64 v6,false,hh):=by
   rw [callFn_at (show pr.fns 23=some c23 from rfl) (by simp)]
   simp only [go_sem,seval,c23,wh2,h3,app_vint_O h5,wh7]
   exact ⟨_,rfl⟩
  obtain ⟨hh,this⟩:=this
  exact callIso_of rfl this (by first | rfl | simp only [go_sem,seval]) (by first | rfl | simp only [go_sem,seval])
 ·rcases cond_split h with ⟨h8,h⟩ | ⟨h8,h⟩
  ·obtain ⟨v9,h10,h⟩:=obind_some h
   obtain ⟨v11,h12,h⟩:=obind_some h
   have wh12:callIso pr (X pr) 39 [sl 1 vint v9]=some (.int .i64 v11,false):=WE39 h12
   have hr:v11=r:=Option.some.inj h
   subst hr
   have this:∃ hh,callFn pr (X pr) 23 [sl 2 vunit a0,sl 2 vpair a1] []=some (.int .i64 v11,false,hh):=by
    rw [callFn_at (show pr.fns 23=some c23 from rfl) (by simp)]
    simp only [go_sem,seval,c23,wh2,h3,h8,app_vint_N h10 h8,wh12]
    exact ⟨_,rfl⟩
   obtain ⟨hh,this⟩:=this
   exact callIso_of rfl this (by first | rfl | simp only [go_sem,seval]) (by first | rfl | simp only [go_sem,seval])
  ·cases h
noncomputable def s1068_0 (a0:GUnit) (a1:GUnit) (s1000:Int × Int):Option ((Int × Int) ⊕ ((Int × Int))):=
 cond (decide (s1000.2 < ((a0.values.getD []).length:Int)))
  (obind (idxO (a0.values.getD []) s1000.2) fun v12=>
  obind (idxO (a1.values.getD []) s1000.2) fun v14=>
  some (.inl (max (max s1000.1 (wrapF .i64 (v12 - v14))) (wrapF .i64 (v14 - v12)),wrapF .i64 (s1000.2 + 1))))
  (some (.inr (s1000.1,s1000.2)))
noncomputable def f1068 (a0:GUnit) (a1:GUnit):Option Int:=
 obind (itO (s1068_0 a0 a1) (0,0)) fun d16=>
 some d16.1
noncomputable def s1071_0 (a0:Option (List GUnit)) (a1:Option (List GPair)) (s1000:Int × Int):Option ((Int × Int) ⊕ ((Int × Int))):=
 cond (decide (s1000.2 < ((a1.getD []).length:Int)))
  (obind (idxO (a1.getD []) s1000.2) fun v20=>
  obind (idxO (a0.getD []) v20.a) fun v22=>
  obind (idxO (a0.getD []) v20.b) fun v24=>
  obind (f1068 v22 v24) fun v26=>
  some (.inl (max s1000.1 v26,wrapF .i64 (s1000.2 + 1))))
  (some (.inr (s1000.1,s1000.2)))
noncomputable def f1071 (a0:Option (List GUnit)) (a1:Option (List GPair)):Option Int:=
 obind (itO (s1071_0 a0 a1) (0,0)) fun d28=>
 some d28.1
noncomputable def s9_0 (a0:Option (List GPair)) (a1:Option (List GPair)) (s1000:Int):Option (Int ⊕ (Unit ⊕ Int)):=
 cond (decide (s1000 < ((a0.getD []).length:Int)))
  (obind (idxO (a0.getD []) s1000) fun v15=>
  obind (idxO (a1.getD []) s1000) fun v17=>
  cond (decide (v15.a=v17.a) && decide (v15.b=v17.b))
   (some (.inl (wrapF .i64 (s1000 + 1))))
   (some (.inr (.inl ()))))
  (some (.inr (.inr s1000)))
def St9_0 (a0:Option (List GPair)) (a1:Option (List GPair)) (s1000:Int):ASt:=⟨[(0,sl 2 vpair a0,false),(1,sl 2 vpair a1,false),(5,.int .i64 s1000,false)],[]⟩
def Ex9_0 (a0:Option (List GPair)) (a1:Option (List GPair)):Unit ⊕ Int→AExit × ASt
 | .inl d=>(.ret,⟨[(4,.bool false,false)],[]⟩)
 | .inr d=>(.exit 0,⟨[(0,sl 2 vpair a0,false),(1,sl 2 vpair a1,false),(5,.int .i64 d,false),(14,.bool false,false)],[]⟩)
theorem b9_0 (a0:Option (List GPair)) (a1:Option (List GPair)) (s1000:Int) (r) (h:s9_0 a0 a1 s1000=some r):stepO pr c9_0 (St9_0 a0 a1) (Ex9_0 a0 a1) s1000 r:=by
 unfold s9_0 at h
 rcases cond_split h with ⟨h14,h⟩ | ⟨h14,h⟩
 ·obtain ⟨v15,h16,h⟩:=obind_some h
  obtain ⟨v17,h18,h⟩:=obind_some h
  rcases cond_split h with ⟨h19,h⟩ | ⟨h19,h⟩
  ·cases h
   exact stepO_in (st':=⟨[(0,sl 2 vpair a0,false),(1,sl 2 vpair a1,false),(5,.int .i64 (wrapF .i64 (s1000 + 1)),false)],[]⟩) (by simp only [go_sem,seval,c9_0,St9_0,h14,idxR_O h16,idxR_O h18,h19] <;> rfl) (gc_same (Nat.le_refl _))
  ·cases h
   exact stepO_out (by simp only [go_sem,seval,c9_0,St9_0,h14,idxR_O h16,idxR_O h18,h19,Ex9_0] <;> rfl)
 ·cases h
  exact stepO_out (by simp only [go_sem,seval,c9_0,St9_0,h14,Ex9_0] <;> rfl)
theorem l9_0 (a0:Option (List GPair)) (a1:Option (List GPair)) {s1000:Int} {d} (h:itO (s9_0 a0 a1) s1000=some d):X pr (.loop c9_0) (St9_0 a0 a1 s1000)=some (Ex9_0 a0 a1 d):=X_itO (b9_0 a0 a1) (fun d=>by rcases d with d|d <;> (intro hh; cases hh)) h
noncomputable def f9 (a0:Option (List GPair)) (a1:Option (List GPair)):Option Bool:=
 cond (decide (((a0.getD []).length:Int)=((a1.getD []).length:Int)))
  (obind (itO (s9_0 a0 a1) 0) fun d20=>match d20 with
   | .inl d22=>
    some false
   | .inr d23=>
    some true)
  (some false)
theorem W9 {a0:Option (List GPair)} {a1:Option (List GPair)} {r} (h:f9 a0 a1=some r):callIso pr (X pr) 9 [sl 2 vpair a0,sl 2 vpair a1]=some (.bool r,false):=by
 unfold f9 at h
 rcases cond_split h with ⟨h1,h⟩ | ⟨h1,h⟩
 ·obtain ⟨d20,h21,h⟩:=obind_some h
  rcases d20 with d22 | d23
  ·have wh21:X pr (.loop c9_0) ⟨[(0,sl 2 vpair a0,false),(1,sl 2 vpair a1,false),(5,.int .i64 0,false)],[]⟩=some (.ret,⟨[(4,.bool false,false)],[]⟩):=l9_0 a0 a1 h21
   have hr:false=r:=Option.some.inj h
   subst hr
   have this:∃ hh,callFn pr (X pr) 9 [sl 2 vpair a0,sl 2 vpair a1] []=some (.bool false,false,hh):=by
    rw [callFn_at (show pr.fns 9=some c9 from rfl) (by simp)]
    simp only [go_sem,seval,c9,h1,wh21]
    exact ⟨_,rfl⟩
   obtain ⟨hh,this⟩:=this
   exact callIso_of rfl this (by first | rfl | simp only [go_sem,seval]) (by first | rfl | simp only [go_sem,seval])
  ·have wh21:X pr (.loop c9_0) ⟨[(0,sl 2 vpair a0,false),(1,sl 2 vpair a1,false),(5,.int .i64 0,false)],[]⟩=some (.exit 0,⟨[(0,sl 2 vpair a0,false),(1,sl 2 vpair a1,false),(5,.int .i64 d23,false),(14,.bool false,false)],[]⟩):=l9_0 a0 a1 h21
   have hr:true=r:=Option.some.inj h
   subst hr
   have this:∃ hh,callFn pr (X pr) 9 [sl 2 vpair a0,sl 2 vpair a1] []=some (.bool true,false,hh):=by
    rw [callFn_at (show pr.fns 9=some c9 from rfl) (by simp)]
    simp only [go_sem,seval,c9,h1,wh21]
    exact ⟨_,rfl⟩
   obtain ⟨hh,this⟩:=this
   exact callIso_of rfl this (by first | rfl | simp only [go_sem,seval]) (by first | rfl | simp only [go_sem,seval])
 ·have hr:false=r:=Option.some.inj h
  subst hr
  have this:∃ hh,callFn pr (X pr) 9 [sl 2 vpair a0,sl 2 vpair a1] []=some (.bool false,false,hh):=by
   rw [callFn_at (show pr.fns 9=some c9 from rfl) (by simp)]
   simp only [go_sem,seval,c9,h1]
   exact ⟨_,rfl⟩
  obtain ⟨hh,this⟩:=this
  exact callIso_of rfl this (by first | rfl | simp only [go_sem,seval]) (by first | rfl | simp only [go_sem,seval])
noncomputable def s65_0 (a0:Option (List Int)) (a1:Int) (s1000:Int):Option (Int ⊕ (Int ⊕ Int)):=
 cond (decide (s1000 < ((a0.getD []).length:Int)))
  (obind (idxO (a0.getD []) s1000) fun v10=>
  cond (decide (a1=v10))
   (some (.inr (.inl s1000)))
   (some (.inl (wrapF .i64 (s1000 + 1)))))
  (some (.inr (.inr s1000)))
def St65_0 (a0:Option (List Int)) (a1:Int) (s1000:Int):ASt:=⟨[(0,sl 1 vint a0,false),(1,.int .i64 a1,false),(7,.int .i64 ((a0.getD []).length:Int),false),(8,.int .i64 s1000,false)],[]⟩
def Ex65_0 (a0:Option (List Int)) (a1:Int):Int ⊕ Int→AExit × ASt
 | .inl d=>(.ret,⟨[(4,.int .i64 d,false)],[]⟩)
 | .inr d=>(.exit 0,⟨[(0,sl 1 vint a0,false),(1,.int .i64 a1,false),(7,.int .i64 ((a0.getD []).length:Int),false),(8,.int .i64 d,false),(9,.bool false,false)],[]⟩)
theorem b65_0 (a0:Option (List Int)) (a1:Int) (s1000:Int) (r) (h:s65_0 a0 a1 s1000=some r):stepO pr c65_0 (St65_0 a0 a1) (Ex65_0 a0 a1) s1000 r:=by
 unfold s65_0 at h
 rcases cond_split h with ⟨h9,h⟩ | ⟨h9,h⟩
 ·obtain ⟨v10,h11,h⟩:=obind_some h
  rcases cond_split h with ⟨h12,h⟩ | ⟨h12,h⟩
  ·cases h
   exact stepO_out (by simp only [go_sem,seval,c65_0,St65_0,h9,idxR_O h11,h12,Ex65_0] <;> rfl)
  ·cases h
   exact stepO_in (st':=⟨[(0,sl 1 vint a0,false),(1,.int .i64 a1,false),(7,.int .i64 ((a0.getD []).length:Int),false),(8,.int .i64 (wrapF .i64 (s1000 + 1)),false)],[]⟩) (by simp only [go_sem,seval,c65_0,St65_0,h9,idxR_O h11,h12] <;> rfl) (gc_same (Nat.le_refl _))
 ·cases h
  exact stepO_out (by simp only [go_sem,seval,c65_0,St65_0,h9,Ex65_0] <;> rfl)
theorem l65_0 (a0:Option (List Int)) (a1:Int) {s1000:Int} {d} (h:itO (s65_0 a0 a1) s1000=some d):X pr (.loop c65_0) (St65_0 a0 a1 s1000)=some (Ex65_0 a0 a1 d):=X_itO (b65_0 a0 a1) (fun d=>by rcases d with d|d <;> (intro hh; cases hh)) h
noncomputable def f65 (a0:Option (List Int)) (a1:Int):Option Int:=
 obind (itO (s65_0 a0 a1) 0) fun d13=>match d13 with
  | .inl d15=>
   some d15
  | .inr d16=>
   some (-1)
theorem W65 {a0:Option (List Int)} {a1:Int} {r} (h:f65 a0 a1=some r):callIso pr (X pr) 65 [sl 1 vint a0,.int .i64 a1]=some (.int .i64 r,false):=by
 unfold f65 at h
 obtain ⟨d13,h14,h⟩:=obind_some h
 rcases d13 with d15 | d16
 ·have wh14:X pr (.loop c65_0) ⟨[(0,sl 1 vint a0,false),(1,.int .i64 a1,false),(7,.int .i64 ((a0.getD []).length:Int),false),(8,.int .i64 0,false)],[]⟩=some (.ret,⟨[(4,.int .i64 d15,false)],[]⟩):=l65_0 a0 a1 h14
  have hr:d15=r:=Option.some.inj h
  subst hr
  have this:∃ hh,callFn pr (X pr) 65 [sl 1 vint a0,.int .i64 a1] []=some (.int .i64 d15,false,hh):=by
   rw [callFn_at (show pr.fns 65=some c65 from rfl) (by simp)]
   simp only [go_sem,seval,c65,wh14]
   exact ⟨_,rfl⟩
  obtain ⟨hh,this⟩:=this
  exact callIso_of rfl this (by first | rfl | simp only [go_sem,seval]) (by first | rfl | simp only [go_sem,seval])
 ·have wh14:X pr (.loop c65_0) ⟨[(0,sl 1 vint a0,false),(1,.int .i64 a1,false),(7,.int .i64 ((a0.getD []).length:Int),false),(8,.int .i64 0,false)],[]⟩=some (.exit 0,⟨[(0,sl 1 vint a0,false),(1,.int .i64 a1,false),(7,.int .i64 ((a0.getD []).length:Int),false),(8,.int .i64 d16,false),(9,.bool false,false)],[]⟩):=l65_0 a0 a1 h14
  have hr:(-1)=r:=Option.some.inj h
  subst hr
  have this:∃ hh,callFn pr (X pr) 65 [sl 1 vint a0,.int .i64 a1] []=some (.int .i64 (-1),false,hh):=by
   rw [callFn_at (show pr.fns 65=some c65 from rfl) (by simp)]
   simp only [go_sem,seval,c65,wh14]
   exact ⟨_,rfl⟩
  obtain ⟨hh,this⟩:=this
  exact callIso_of rfl this (by first | rfl | simp only [go_sem,seval]) (by first | rfl | simp only [go_sem,seval])
end Go.Z
/-
 The growth of an empty list: its contract.
-/
namespace Go.Z
open Go Go.Abs
@[go_sem] theorem lenR_cap_sl {α:Type} {h:Heap} {z:Nat} {f:α→AVal}:lenR 2 h (some (sl z f (none:Option (List α))))=some ⟨.int .i64 0,false,none,h⟩:=rfl
theorem sl_noneE {α:Type} {z:Nat} {f:α→AVal}:sl z f (none:Option (List α))=.list true 0 []:=rfl
theorem X_growE {p:AProg} {sz m z:Nat} {o1 o2:Bool} {xs:List AVal} {e:Env} {h:Heap} (hm:0 < m) (hm2:m≤1073741824):X p (.grow sz) ⟨(0,.list true z xs,o1)::(1,.int .i64 (m:Int),o2)::e,h⟩=some (.normal,⟨[(0,.list false sz [],true)],h⟩):=by
 refine X_iff.2 ⟨1,?_⟩
 have h1:Nat.blt 0 m=true:=Nat.blt_eq.mpr hm
 have h2:Nat.ble m 1073741824=true:=Nat.ble_eq_true_of_le hm2
 show (bif Nat.blt 0 m && Nat.ble m 1073741824 then some (AExit.normal,({ env:=[(0,.list false sz [],true)],heap:=h }:ASt)) else none)=_
 rw [h1,h2]; rfl
noncomputable def E64 (o:Option (List Int)) (n:Int):Option (Option (List Int) × Bool):=exO (o=none∧0≤n∧n≤1073741824) (if n=0 then (none,false) else (some [],true))
theorem WE64 {o n r} (h:E64 o n=some r):callIso pr (X pr) 64 [sl 1 vint o,.int .i64 n]=some (sl 1 vint r.1,r.2):=by
 obtain ⟨⟨rfl,h1,h2⟩,rfl⟩:=exO_some h
 obtain ⟨m,rfl⟩:∃ m:Nat,n=(m:Int):=⟨n.toNat,by omega⟩
 have hn:¬ (m:Int) < 0:=by omega
 have hw:wrapF .i64 ((m:Int) - wrapF .i64 (0 - 0))=(m:Int):=by
  rw [show wrapF .i64 (0 - 0)=0 from rfl,Int.sub_zero,wrapF_i64 (by omega) (by omega)]
 have hw':wrapF .i64 ((m:Int) - 0)=(m:Int):=by
  rw [Int.sub_zero,wrapF_i64 (by omega) (by omega)]
 have hw0:wrapF .i64 0=0:=rfl
 have hwm:wrapF .i64 (m:Int)=(m:Int):=wrapF_i64 (by omega) (by omega)
 by_cases hm:m=0
 ·subst hm
  have:callFn pr (X pr) 64 [sl 1 vint (none:Option (List Int)),.int .i64 ((0:Nat):Int)] []=some (.list true 0 [],false,[]):=by
   rw [callFn_at (show pr.fns 64=some c64 from rfl) (by simp)]
   simp only [go_sem,seval,c64,sl_noneE,hw0,Int.sub_zero,Int.natCast_zero,Int.lt_irrefl,decide_false] <;> rfl
  exact callIso_of rfl this rfl (by simp only [go_sem,seval])
 ·have hgt:(0:Int) < (m:Int):=by omega
  have hne:¬ (m:Int)=0:=by omega
  have hg:=fun (e:Env) (h:Heap) (z:Nat) (o1 o2:Bool) (xs:List AVal)=>X_growE (p:=pr) (sz:=1) (m:=m) (z:=z) (o1:=o1) (o2:=o2) (xs:=xs) (e:=e) (h:=h) (by omega) (by omega)
  have:callFn pr (X pr) 64 [sl 1 vint (none:Option (List Int)),.int .i64 (m:Int)] []=some (.list false 1 [],true,[]):=by
   rw [callFn_at (show pr.fns 64=some c64 from rfl) (by simp)]
   simp only [go_sem,seval,c64,hw0,Int.sub_zero,hwm,hn,hgt,hg,sl_noneE] <;> rfl
  rw [if_neg hne]
  exact callIso_of_own rfl this rfl (by simp only [go_sem,seval]) rfl
end Go.Z
