/-
  Contracts as functions, for the printed walks: lists of numbers.
-/
import Derived.Test.YtlonjmhacojkjaaGreatDoorG0m
import Derived.Test.YtlonjmhacojkjaaGreatDoorG0b
import Derived.Test.YtlonjmhacojkjaaGreatDoorL8
import Derived.Test.YtlonjmhacojkjaaGreatDoorL14
import Derived.Test.YtlonjmhacojkjaaGreatDoorL5
import Derived.Test.YtlonjmhacojkjaaGreatDoorG0
set_option linter.unusedVariables false
set_option linter.unusedSimpArgs false
set_option maxRecDepth 100000
namespace Go.Z
open Go Go.Abs
noncomputable def E5:Option Bool:=some true
theorem WE5 {r} (h:E5=some r):callIso pr (X pr) 5 []=some (.bool r,false):=by cases h; exact I5
noncomputable def E57 (b:Bool) (e:Int):Option Int:=some (whenE b e)
theorem WE43 {b e r} (h:E57 b e=some r):callIso pr (X pr) 43 [.bool b,.int .i64 e]=some (.int .i64 r,false):=by cases h; exact I43 ..
noncomputable def E17 (o:Option (List Int)):Option Int:=exO ((o.getD []).length≤9223372036854775807∧o ≠ none) (firstNZ (o.getD []))
theorem WE17 {o r} (h:E17 o=some r):callIso pr (X pr) 17 [sl 1 vint o]=some (.int .i64 r,false):=by obtain ⟨h1,rfl⟩:=exO_some h; exact I17 _ h1.1
theorem WE41 {o r} (h:E17 o=some r):callIso pr (X pr) 41 [sl 1 vint o]=some (.int .i64 r,false):=by
 obtain ⟨h1,rfl⟩:=exO_some h
 cases o with
 | none=>exact absurd rfl h1.2
 | some l=>exact I41 l h1.1
noncomputable def E8 (a b:Option (List Int)):Option Bool:=exO ((a.getD []).length≤1073741824) (decide (a.getD []=b.getD []))
theorem WE8 {a b r} (h:E8 a b=some r):callIso pr (X pr) 8 [sl 1 vint a,sl 1 vint b]=some (.bool r,false):=by obtain ⟨h1,rfl⟩:=exO_some h; exact I8 _ _ h1
end Go.Z
/-
 Contracts as functions,for the printed walks: pairs of units.
-/
namespace Go.Z
open Go Go.Abs
structure GPair where
 a:Int
 b:Int
def vpair (p:GPair):AVal:=.agg [.int .i64 p.a,.int .i64 p.b]
@[go_sem] theorem flat_vpair {p:GPair}:(vpair p).flat=[.int .i64 p.a,.int .i64 p.b]:=rfl
@[go_sem] theorem below_vpair {n:Nat} (p:GPair):below n (vpair p)=true:=rfl
@[go_sem] theorem below_pairs {n:Nat} {l:Option (List GPair)}:below n (sl 2 vpair l)=true:=below_sl fun _=>rfl
@[go_sem] theorem loadR_vpair {h0:Nat} {al:Option (List Nat)} {h:Heap} {p:GPair}:loadR h0 al true 2 h (some (.vptr (vpair p)))=some ⟨.agg [.int .i64 p.a,.int .i64 p.b],false,none,h⟩:=rfl
@[go_sem] theorem indexArr_vpair0 {h:Heap} {k:IntKind} {p:GPair}:indexArrR false 2 1 h (some (.vptr (vpair p))) (some (.int k 0))=some ⟨.vptr (.int .i64 p.a),false,none,h⟩:=rfl
@[go_sem] theorem indexArr_vpair1 {h:Heap} {k:IntKind} {p:GPair}:indexArrR false 2 1 h (some (.vptr (vpair p))) (some (.int k 1))=some ⟨.vptr (.int .i64 p.b),false,none,h⟩:=rfl
theorem app_vpair_O {b t:Nat} {h:Heap} {bb:Bool} {x:GPair} {o v:Option (List GPair)} (hv:apO o [x]=some v):appR 2 b h (some t) (some (sl 2 vpair o)) (some (.list bb 2 [.agg [.int .i64 x.a,.int .i64 x.b]]))=ifR (decide (b≤4096)) (some ⟨sl 2 vpair v,true,some t,h⟩):=app_el (x:=x) (by omega) rfl hv
noncomputable def E1022 (o:Option (List GUnit)):Option Int:=exO ((o.getD []).length≤1073741824∧∀ u∈o.getD [],sizeU u) (unitsE (o.getD []))
theorem WE32 {o r} (h:E1022 o=some r):callIso pr (X pr) 32 [sl 2 vunit o]=some (.int .i64 r,false):=by obtain ⟨⟨h1,h2⟩,rfl⟩:=exO_some h; exact I32 _ h1 h2
noncomputable def E50 (u:GUnit):Option Int:=exO (sizeU u) (unitE u)
theorem WE50 {u r} (h:E50 u=some r):callIso pr (X pr) 50 [.agg [.str u.serial,sl 1 vint u.values]]=some (.int .i64 r,false):=by obtain ⟨h1,rfl⟩:=exO_some h; exact I50 _ h1
def someL (o:Option (List Int)):Prop:=(o.getD []).length≤1073741824∧o.getD [] ≠ []
noncomputable def E47 (o:Option (List Int)):Option Int:=exO (someL o) (maxL (o.getD []))
theorem WE47 {o r} (h:E47 o=some r):callIso pr (X pr) 47 [sl 1 vint o]=some (.int .i64 r,false):=by
 obtain ⟨⟨h1,h2⟩,rfl⟩:=exO_some h
 cases o with
 | none=>exact absurd rfl h2
 | some l=>cases l with
  | nil=>exact absurd rfl h2
  | cons x l=>exact I47 l x h1
def E76n (o:Option (List GPair)):Option Unit:=if o.isNone then some () else none
theorem WE76n {o r} (h:E76n o=some r):callIso pr (X pr) 76 [sl 2 vpair o]=some (.list true 0 [],false):=by
 cases o with
 | some l=>cases h
 | none=>
  have:callFn pr (X pr) 76 [sl 2 vpair (none:Option (List GPair))] []=some (.list true 0 [],false,[]):=by
   rw [callFn_at (show pr.fns 76=some c76 from rfl) (by simp)]
   simp only [go_sem,seval,c76,Option.isNone_none]
  exact callIso_of rfl this rfl rfl
noncomputable def E76 (o:Option (List GPair)):Option (Option (List GPair)):=exO ((o.getD []).length≤1073741824∧o ≠ none) o
theorem WE76 {o r} (h:E76 o=some r):callIso pr (X pr) 76 [sl 2 vpair o]=some (sl 2 vpair r,true):=by
 obtain ⟨h1,rfl⟩:=exO_some h
 cases o with
 | none=>exact absurd rfl h1.2
 | some l=>
  have hl:l.length≤1073741824:=h1.1
  have:callFn pr (X pr) 76 [sl 2 vpair (some l)] []=some (.list false 2 (l.map vpair),true,[]):=by
   rw [callFn_at (show pr.fns 76=some c76 from rfl) (by simp)]
   simp only [go_sem,seval,c76,Option.isNone_some,Option.getD_some,List.length_map,Nat.zero_add,hl]
  exact callIso_of rfl this rfl (by simp only [go_sem,seval])
end Go.Z
